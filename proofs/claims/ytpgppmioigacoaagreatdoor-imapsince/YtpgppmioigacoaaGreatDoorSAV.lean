/- Lemmas that the claim's last text uses. No conditions. -/
import Derived.Test.YtpgppmioigacoaaGreatDoorSAU
import Derived.Test.YtpgppmioigacoaaGreatDoorSAS
set_option linter.all false
set_option maxRecDepth 100000
open List renaming getElem?_eq_getElem→a!,getElem?_eq_some_iff→c!,drop_eq_getElem_cons→e!,mem_of_getElem?→g!,mem_append→i!,length_append→j!,getElem?_map→k!,append_assoc→l!,length_take→n!,map_cons→o!,length_map→p!,map_nil→q!,getElem?_append_left→r!,take_length→t!,take_of_length_le→u!,mem_singleton→y!,getElem?_drop→z!,findIdx?_eq_some_iff_getElem→A!,length_cons→C!,take_append_of_le_length→D!,map_append→E!,length_eq_zero_iff→G!,filter_eq_self→L!,take_add_one→M!,find?_append→N!,append_nil→P!,drop_drop→Q!,length→R!
open Go.Vm.Pos renaming of→b!
open Nat renaming ble_eq_true_of_le→d!,zero_add→v!,add_zero→w!,le_refl→x!,beq_refl→B!,ble→F!,succ_mul→H!,le_trans→I!,le_of_lt→J!,mul_le_mul_right→K!,beq→O!,zero_le→S!,blt_eq→T!
open Go.Proofs.Tryz renaming prog→h!
open Go.Vm.V renaming int→Y,ptr→X,bool→K,str→H
open Go.IntKind renaming i64→U
open Go.Vm.Ob renaming cells→O
open Go.Vm.Wr renaming rw→N
open Go.Vm.R renaming ok→D
noncomputable section
open Go Go.Vm Go.Proofs Go.Im Go.Proofs.Im Go.Ln
namespace Go.Im
def mgK(y:Mg):Int×Int×Int:=(y.uid,y.id,y.told)
def thK(x:Int×Ml):Int×Int×Int:=(x.1,x.2.id,x.2.mod)
def aeG(l:List (Int×Ml)):Int:=l.foldl (λa x=>max a x.1) 0
end Go.Im
namespace Go.Proofs.Im
section
variable{h h' g:Hp}{F I:Pos->Prop}{ps pl ib p pv:Pos}{A:Acc}{cb:Cap}{fb:Bool}{vm vl vv:V}{b:Nat}{l:List Mg}{box:Int}
theorem aC7{b:Bx}{p:Pos}{n:Int}{w:Wr}(k:Kn g p (O w [iV n])):Oe [.agg (V.ofList (gB b)),X p 0] g=D (K (decide (b.id=n))) (g.new (O (N tBx true) (gB b))):=by
 have e1:=(Kn.new g (O (N tBx true) (gB b))).ld (q:=0) (x:=iV b.id) rfl;have e2:=(k.add (O (N tBx true) (gB b))).ld (q:=0) (x:=iV n) rfl;rw[avS];simp only[vvB,seval,af7,ah9,ah8,V.bW,e1,e2];simp only[aU,cO,vvB,seval,dn]
theorem aBk(p:Pos)(x:V)(g:Hp):dI kP (.func (.func RQ) .nil (.cons (X p 0) .nil)) [x] g=Oe [x,X p 0] g:=(rfl)
theorem aF1(a:dJ h F ps A pl ib cb fb vm vl I)(hA:A.Small){box:Int}(hs:(Wn A.mails box).Pairwise λx y=>x.1<y.1)(ab:(Wn A.mails box).length<50)(ac:(A.boxes.any λb=>decide (b.id=box))=true):
  ∃pv h' vv l,abH [X ps 0,iV box] h=D (.tuple (.cons (X pv 0) (.cons (iV 0) .nil))) h'/\aaE h.next.nat h' pv box (aeG (Wn A.mails box)) l vv/\Nw h h'/\l.map mgK=(Wn A.mails box).map thK:=by
 obtain⟨h1,ad,Q,k1⟩:=mkW h (O (N fZ true) [iV box]);obtain⟨r,h2,e2,r2,L,-⟩:=QJ (a.nw Q) hA;obtain⟨d,e3,S⟩:=agE (f:=.func (.func RQ) .nil (.cons (X h.next 0) .nil)) r2 (aK _) (λb:Bx=>decide (b.id=box)) (by have:=hA.boxes;omega) (λa cs g _ c e _=>by
  obtain rfl:cs=gB a:=e;exact⟨_,by rw[aBk];exact aC7 (k1.nw (L.trans c)),Nw.new _ _⟩)
 have o:mP [r,.func (.func RQ) .nil (.cons (X h.next 0) .nil)] h2=D (K true) d:=by rw[<-ac];exact e3
 have F2:∀g,fC (.func RQ) [] [X h.next 0] g=D (.func (.func RQ) .nil (.cons (X h.next 0) .nil)) g:=λg=>rfl;have k3:=k1.nw (L.trans S);have L3:=k3.ld (q:=0) (x:=iV box) rfl;obtain⟨h4,ae,W,k4⟩:=mkW d (O (N tVw true) [iV box,.aO,iV 0]);have B4:bU [(Y U 0),.aO,(Y U 0)] [(0,1,iV box)] d=D (.agg (V.ofList [iV box,.aO,iV 0])) d:=(rfl)
 have L4:=(k3.nw W).ld (q:=0) (x:=iV box) rfl;have E:Nw h h4:=((Q.trans L).trans S).trans W;obtain⟨ag,C,e5,o5,Z⟩:=Wx (a.nw E) hA hs ab;have R5:=(o5.rws dS).mono (P':=λj=>h4.next.nat<=j.nat/\j.nat<C.next.nat) dS λj M q=>⟨q,M⟩
 have al:=a.st.2;have n1:=Q.next;have n2:=L.next;have n3:=S.next;have n4:=W.next;have n5:=Z.next;have am:=k4.2;have nn:∀g,aI .eql (.ptr 16) (X ps 0) .bY g=D (K false) g:=λg=>rfl;rw[axs]
 suffices T:aW h! _ (λr h'=>∃vv l,r=.tuple (.cons (X d.next 0) (.cons (iV 0) .nil))/\aaE h.next.nat h' d.next box (aeG (Wn A.mails box)) l vv/\Nw h h'/\l.map mgK=(Wn A.mails box).map thK)
   (abd (T.set (some (iV box)) (b! 1) (T.set (some (X ps 0)) (b! 0) T.nil)) h) by
  obtain⟨r,h',e,vv,l,rfl,q⟩:=T;exact⟨_,h',vv,l,e,q⟩
 simp only[vvB,seval,abd,amI,amH,amG,amF,amE,anX,<-ad,nn,e2,F2,o,L3,B4,V.bW,<-ae,L4,e5,R5.len];refine Oc.then (dK (σ:=V×List Mg) (n:=(Wn A.mails box).length) (pi:=25) (pn:=24) (pc:=26) [6,23] (λ_=> [X d.next 0,ag]) (λk s g=>aaE h.next.nat g d.next box (aeG ((Wn A.mails box).take k)) s.2 s.1/\Ch (λj=>j=d.next\/C.next.nat<=j.nat) C g/\s.2.map mgK=((Wn A.mails box).take k).map thK/\∀j,bC s.1=some j->C.next.nat<=j.nat)
  (A:=λfr g=>fr.get (b! 6)=some (X d.next 0)/\∃vv l,aaE h.next.nat g d.next box (aeG (Wn A.mails box)) l vv/\Ch (λj=>j=d.next\/C.next.nat<=j.nat) C g/\l.map mgK=(Wn A.mails box).map thK) (B:=λfr g=>False) (s:=(.aO,[]))
  (λfr h _ k e1 e2=>by simp only[vvB,seval,amD,e1,e2]) (λfr h k _ e1=>by simp(disch:=omega)only[vvB,seval,aib,e1]) (by decide) (by rw[dO];omega) (qK0) (qK0) (by simp only[Fa,vvB,seval,and_self])
  ⟨⟨k4.nw Z,dA.nil _ _ _ _ _ _,λ_ q=>(by cases q),.nil,λ_ q=>(by cases q),λq=>(by cases q),⟨by omega,λ_ q=>(by cases q)⟩⟩,Ch.refl _ _,rfl,λ_ q=>(by cases q)⟩ ?_ ?_) ?_ ?_
 ·rintro k ⟨vv,l⟩ fr g hk G aa fa hI;obtain⟨z,t,-⟩:=fa;obtain⟨v,c,hl,hv⟩:=hI;obtain⟨x,hx⟩:∃x,(Wn A.mails box)[k]?=some x:=⟨_,a! hk⟩
  obtain⟨i,q,cs,e1,⟨vk,vs,rfl,rk,rs⟩,-,-,-,-,e3⟩:=(R5.ch (P':=λ_=>True) dS c λj M q=>⟨trivial,λe=>by rcases e with rfl|e<;>omega⟩).elt hx;have o:=e3 g rfl;obtain⟨J,w⟩:∃J,J=g.new (O (N tTh true) (thC x vk vs)):=⟨_,rfl⟩
  have S2:aQ 9 (X g.next 0) (.agg (V.ofList (thC x vk vs))) (g.new (O (N tTh true) zTh))=D V.undef J:=by rw[w];exact ig (V.dG _) rfl rfl
  have m:Nw g J:=by rw[w];exact Nw.new _ _
  have k2:Kn J g.next (O (N tTh true) (thC x vk vs)):=by rw[w];exact Kn.new _ _
  have ak:=c.next;have aj:=m.next;have ai:l.length=k:=by have:=congrArg R! hl;simp at this;omega
  obtain⟨u,g3,ah,q',e6,v6,c6,af⟩:=aF5 (P:=λ_=>True) (v.nw m) (by omega) (by show l.length<=1000;omega) (x:=x) (vk:=vk) (vs:=vs);simp only[vvB,seval,amC,amB,G,t,z,e1,o,S2,k2.ldN (n:=9) rfl,e6];refine⟨qK2 G,qK2 aa,(ah,l++ [{uid:=x.1,id:=x.2.id,told:=x.2.mod,at_:=q'}]),by simp only[Fa,vvB,seval,z,t,and_self],?_,?_,?_,?_⟩
  ·rw[take_snoc hx];have:aeG ((Wn A.mails box).take k++ [x])=max (aeG ((Wn A.mails box).take k)) x.1:=by simp[aeG,List.foldl_append]
   rw[this];exact v6
  ·exact(c.trans m λ_ _ q=>q.elim).trans c6 λj M q=>q.imp id λe=>by have:=hv j e;omega
  ·simp only[E!];rw[hl,take_snoc hx,E!];rfl
  ·intro j e;have:=af j e;omega
 ·rintro⟨vv,l⟩ fr g fa hI;obtain⟨z,t,-⟩:=fa;obtain⟨v,c,hl,hv⟩:=hI;rw[t!]at v hl;exact⟨z,vv,l,v,c,hl⟩
 ·rintro fr g ⟨z,vv,l,v,c,hl⟩;simp only[vvB,seval,aia,z];exact aW.ret (qT0) ⟨vv,l,rfl,v,((E.trans Z).then c λj M e=>by rcases e with rfl|e<;>omega),hl⟩
 ·intro fr g q;exact q.elim
end
end Go.Proofs.Im
namespace Go.Im
structure VwR (tV tM tA:TypeId) (h:Hp) (J:Pos->Prop) (pv:Pos) (box had:Int) (l:List Mg) (vv:V):Prop where
 vw:Kn h pv (O (N tV true) [iV box,vv,iV had])
 row:(l= []/\vv=.aO)\/∃i f rest,vv=.slice i 0 l.length (.un 3)/\Kn h i (O (N tM f) ((l.map mgC).flatten++rest))
 told:∀x∈l,Kn h x.at_ (O (N tA true) [iV x.told])
 nd:(l.map (·.at_)).Nodup
 sep:∀x∈l,x.at_≠pv/\bC vv≠some x.at_
 nv:bC vv≠some pv
 foot:J pv/\(∀j,bC vv=some j->J j)/\∀x∈l,J x.at_
 lt:∀j,J j->j.nat<h.next.nat
theorem VwR.rws{tV tM tA:TypeId}{h:Hp}{J:Pos->Prop}{pv:Pos}{box had:Int}{l:List Mg}{vv:V}(a:VwR tV tM tA h J pv box had l vv):Rws J (flat mgC) 3 h vv l:=by
 rcases a.row with⟨rfl,rfl⟩|⟨i,f,rest,rfl,k⟩
 ·exact Rws.aO _ _ _ _
 ·have b:∀d∈l.map mgC,d.length=3:=λd hd=>by obtain⟨x,_,rfl⟩:=List.mem_map.1 hd;rfl
  have hl:(l.map mgC).flatten.length=l.length*3:=by rw[iQ b,p!]
  refine⟨l.map mgC,?_,b,⟨hl,.inr ⟨i,0,_,N tM f,(l.map mgC).flatten++rest,rfl,k.2,by rw[k.1];rfl,λq n=>?_⟩⟩,λ_ _ _ _ e=>(by cases e;rfl),λj c=>a.foot.2.1 j c⟩
  ·have:∀m:List Mg,All2 (flat mgC J h) m (m.map mgC):=λm=>by
    induction m with
    |nil=>exact .nil
    |cons x m o=>exact .cons rfl o
   exact this l
  ·rw[v!,r!];rw[hl];exact n
theorem VwR.ch{tV tM tA:TypeId}{h h':Hp}{J S:Pos->Prop}{pv:Pos}{box had:Int}{l:List Mg}{vv:V}(a:VwR tV tM tA h J pv box had l vv)(c:Ch S h h')(b:∀j,J j->¬S j):VwR tV tM tA h' J pv box had l vv where
 vw:=a.vw.ch c (b _ a.foot.1)
 row:=a.row.imp id λ⟨i,f,rest,e,k⟩=>⟨i,f,rest,e,k.ch c (b i (a.foot.2.1 i (by rw[e];rfl)))⟩
 told:=λx q=>(a.told x q).ch c (b _ (a.foot.2.2 x q))
 nd:=a.nd
 sep:=a.sep
 nv:=a.nv
 foot:=a.foot
 lt:=λj q=>Nat.lt_of_lt_of_le (a.lt j q) c.next
theorem VwG.vwr{tV tM tA:TypeId}{h:Hp}{pv:Pos}{box had:Int}{l:List Mg}{vv:V}{b:Nat}(a:VwG tV tM tA b h pv box had l vv):VwR tV tM tA h (λj=>b<=j.nat/\j.nat<h.next.nat) pv box had l vv where
 vw:=a.vw
 row:=by
  by_cases hl:l= []
  ·subst hl;obtain⟨d,x,k,s⟩:=a.row;rcases s.is with⟨_,e⟩|⟨i,e,hb,hi,f,c⟩
   ·exact .inl ⟨rfl,e⟩
   ·cases x;exact .inr ⟨i,f,[],e,by simpa using c,hi⟩
  ·obtain⟨d,x,k,s⟩:=a.row;rcases s.is with⟨h0,e⟩|⟨i,e,hb,hi,f,c⟩
   ·exact absurd (G!.1 h0) hl
   ·refine .inr ⟨i,f,[],e,?_,hi⟩;rw[x.flat]at c;simpa using c
 told:=a.told
 nd:=a.nd
 sep:=a.sep
 nv:=a.nv
 foot:=⟨⟨a.lo.1,a.vw.2⟩,λj e=>a.row.eY e,λx q=>⟨a.lo.2 x q,(a.told x q).2⟩⟩
 lt:=λj q=>q.2
end Go.Im
namespace Go.Proofs.Im
section
variable{h h' g:Hp}{J:Pos->Prop}{pv:Pos}{A:Acc}{vv:V}{l:List Mg}{box had:Int}
abbrev VwK(h:Hp)(J:Pos->Prop)(pv:Pos)(box had:Int)(l:List Mg)(vv:V):Prop:=VwR tVw tVm tAt h J pv box had l vv
theorem aF4(a:VwK h J pv box had l vv):abJ [X pv 0] h=D (iV box) h:=by
 have L:=a.vw.ld (q:=0) (x:=iV box) rfl;rw[axu];simp only[vvB,seval,akO,amU,amT,amS,fD,L,aU,cO,dn]
theorem aeP(a:VwK h J pv box had l vv)(hl:l.length<=1000):
  ∃r h',FX [X pv 0] h=D r h'/\gK h.next.nat (flat fH) fZ 1 h' r (l.map (·.uid))/\Nw h h':=by
 have L:=a.vw.ld (q:=1) (x:=vv) rfl;have R:=a.rws;rw[avQ];show aW h! _ (λr h'=>gK h.next.nat (flat fH) fZ 1 h' r (l.map (·.uid))/\Nw h h') _;simp only[vvB,seval,af6,ah1,ah0,ahZ,ahY,ajJ,fD,L,R.len];refine Oc.then (dK (σ:=V) (n:=l.length) (pi:=13) (pn:=12) (pc:=14) [3,11] (λv=> [v,vv]) (λk v g=>Nw h g/\gK h.next.nat (flat fH) fZ 1 g v ((l.map (·.uid)).take k))
  (A:=λfr g=>∃v,fr.get (b! 3)=some v/\Nw h g/\gK h.next.nat (flat fH) fZ 1 g v (l.map (·.uid))) (B:=λfr g=>False) (s:=.aO)
  (λfr h _ k e1 e2=>by simp only[vvB,seval,ahX,e1,e2]) (λfr h k _ e1=>by simp(disch:=omega)only[vvB,seval,ahU,e1]) (by decide) (by rw[dO];omega) (qK0) (qK0) (by simp only[Fa,vvB,seval,and_self]) ⟨Nw.refl _,gK.nil _ _ _ _ _⟩ ?_ ?_) ?_ ?_
 ·intro k v fr g W y P t u;obtain⟨f3,w,-⟩:=t;obtain⟨c,o⟩:=u;obtain⟨x,z⟩:∃x,l[k]?=some x:=⟨_,a! W⟩
  obtain⟨i,q,cs,e1,e2,-,-,-,-,I⟩:=(R.nw (aK _) c).elt z;obtain rfl:cs=mgC x:=e2;have m:=I g rfl;obtain⟨b,d⟩:∃b,b=g.new (O (N tVm true) (mgC x)):=⟨_,rfl⟩
  have E:aQ 3 (X g.next 0) (.agg (V.ofList (mgC x))) (g.new (O (N tVm true) zVm))=D V.undef b:=by rw[d];exact ig (V.dG _) rfl rfl
  have f:Nw g b:=by rw[d];exact Nw.new _ _
  have k2:Kn b g.next (O (N tVm true) (mgC x)):=by rw[d];exact Kn.new _ _
  have S:=c.next;have Z:=f.next;obtain⟨C,Q,p,o5,G,n5,-⟩:=(o.nw (aK _) f).app (bt:=8) (x:=x.uid) (cs:=fH x.uid) (P0:=λ_=>False) (aK _) (by omega) rfl rfl (λj _ q=>q.elim) (by simp;omega);have p:bK fZ 1 8 v (.slice b.next 0 1 (.kn 1)) (b.new (O (N fZ true) [iV x.uid]))=D C Q:=p;simp only[vvB,seval,ahW,ahV,f3,w,y,e1,m,E,k2.ld (q:=0) (x:=iV x.uid) rfl,p];refine⟨qK2 y,qK2 P,C,by simp only[Fa,vvB,seval,w,and_self],?_,?_⟩
  ·exact(c.trans f).own G λj e=>(o.eY e).1
  ·rw[take_snoc (show(l.map (·.uid))[k]?=some x.uid by rw[k!,z];rfl)];exact o5
 ·intro v fr g t u;obtain⟨f3,M,-⟩:=t;obtain⟨c,o⟩:=u;rw[u! (by simp)]at o;exact⟨v,f3,c,o⟩
 ·rintro fr g ⟨v,f3,c,o⟩;simp only[vvB,seval,ahT,f3];exact aW.ret (r:=v) (qT0) ⟨o,c⟩
 ·intro fr g q;exact q.elim
theorem aF2(a:VwK h J pv box had l vv)(hl:l.length<=1000):
  ∃r h',abI [X pv 0] h=D r h'/\gK h.next.nat (flat fH) fZ 1 h' r (l.map (·.id))/\Nw h h':=by
 have L:=a.vw.ld (q:=1) (x:=vv) rfl;have R:=a.rws;rw[axt];show aW h! _ (λr h'=>gK h.next.nat (flat fH) fZ 1 h' r (l.map (·.id))/\Nw h h') _;simp only[vvB,seval,akN,amR,amQ,amP,amO,anY,fD,L,R.len];refine Oc.then (dK (σ:=V) (n:=l.length) (pi:=13) (pn:=12) (pc:=14) [3,11] (λv=> [v,vv]) (λk v g=>Nw h g/\gK h.next.nat (flat fH) fZ 1 g v ((l.map (·.id)).take k))
  (A:=λfr g=>∃v,fr.get (b! 3)=some v/\Nw h g/\gK h.next.nat (flat fH) fZ 1 g v (l.map (·.id))) (B:=λfr g=>False) (s:=.aO)
  (λfr h _ k e1 e2=>by simp only[vvB,seval,amN,e1,e2]) (λfr h k _ e1=>by simp(disch:=omega)only[vvB,seval,amK,e1]) (by decide) (by rw[dO];omega) (qK0) (qK0) (by simp only[Fa,vvB,seval,and_self]) ⟨Nw.refl _,gK.nil _ _ _ _ _⟩ ?_ ?_) ?_ ?_
 ·intro k v fr g W y P t u;obtain⟨f3,w,-⟩:=t;obtain⟨c,o⟩:=u;obtain⟨x,z⟩:∃x,l[k]?=some x:=⟨_,a! W⟩
  obtain⟨i,q,cs,e1,e2,-,-,-,-,I⟩:=(R.nw (aK _) c).elt z;obtain rfl:cs=mgC x:=e2;have m:=I g rfl;obtain⟨b,d⟩:∃b,b=g.new (O (N tVm true) (mgC x)):=⟨_,rfl⟩
  have E:aQ 3 (X g.next 0) (.agg (V.ofList (mgC x))) (g.new (O (N tVm true) zVm))=D V.undef b:=by rw[d];exact ig (V.dG _) rfl rfl
  have f:Nw g b:=by rw[d];exact Nw.new _ _
  have k2:Kn b g.next (O (N tVm true) (mgC x)):=by rw[d];exact Kn.new _ _
  have S:=c.next;have Z:=f.next;obtain⟨C,Q,p,o5,G,n5,-⟩:=(o.nw (aK _) f).app (bt:=8) (x:=x.id) (cs:=fH x.id) (P0:=λ_=>False) (aK _) (by omega) rfl rfl (λj _ q=>q.elim) (by simp;omega);have p:bK fZ 1 8 v (.slice b.next 0 1 (.kn 1)) (b.new (O (N fZ true) [iV x.id]))=D C Q:=p;simp only[vvB,seval,amM,amL,f3,w,y,e1,m,E,k2.ld (q:=1) (x:=iV x.id) rfl,p];refine⟨qK2 y,qK2 P,C,by simp only[Fa,vvB,seval,w,and_self],?_,?_⟩
  ·exact(c.trans f).own G λj e=>(o.eY e).1
  ·rw[take_snoc (show(l.map (·.id))[k]?=some x.id by rw[k!,z];rfl)];exact o5
 ·intro v fr g t u;obtain⟨f3,M,-⟩:=t;obtain⟨c,o⟩:=u;rw[u! (by simp)]at o;exact⟨v,f3,c,o⟩
 ·rintro fr g ⟨v,f3,c,o⟩;simp only[vvB,seval,amJ,f3];exact aW.ret (r:=v) (qT0) ⟨o,c⟩
 ·intro fr g q;exact q.elim
end
end Go.Proofs.Im
namespace Go.Im
theorem _root_.Go.Vm.Rws.strs{P:Pos->Prop}{h:Hp}{v:V}{l:List (List Nat)}(r:Rws P (flat fF) 1 h v l):Sl h.next.nat h 1 v l.length (l.map H)/\yN 1 v:=by
 obtain⟨b,a,c,s,k,p⟩:=r;have:b.flatten=l.map H:=by rw[a.flat];exact LD l
 rw[this]at s;exact⟨s,k⟩
abbrev jA:List Nat:= [73,78,66,79,88]
def aac(p:List Nat):List Nat:=if foldM p=foldM jA then jA else p
def uT(l:List Bx)(p:List Nat):Option Bx:=l.find? λb=>decide (b.name=aac p)
structure TopB (l:List Bx):Prop where
 few:l.length<=1000
 top:∀b∈l,b.par=0
 name:∀b∈l,b.name.length<=1000000/\∀c∈b.name,c<256
 once:∀(k:Nat) (b:Bx),l[k]?=some b->l.findIdx? (λx=>decide (x.id=b.id))=some k
end Go.Im
namespace Go.Proofs.Im
section
variable{h h' g:Hp}{P:Pos->Prop}{p:Pos}{A:Acc}{v:V}{l:List Bx}
theorem arp{b:Bx}{p:Pos}{n:Int}{w:Wr}(k:Kn g p (O w [iV n])):x9 [.agg (V.ofList (gB b)),X p 0] g=D (K (decide (b.id=n))) (g.new (O (N tBx true) (gB b))):=by
 have e1:=(Kn.new g (O (N tBx true) (gB b))).ld (q:=0) (x:=iV b.id) rfl;have e2:=(k.add (O (N tBx true) (gB b))).ld (q:=0) (x:=iV n) rfl;rw[ak3];simp only[vvB,seval,Pj,U7,U6,V.bW,e1,e2];simp only[aU,cO,vvB,seval,dn]
theorem aoV(p:Pos)(x:V)(g:Hp):dI kP (.func (.func ad6) .nil (.cons (X p 0) .nil)) [x] g=x9 [x,X p 0] g:=(rfl)
theorem auX(r:Rws P (flat gB) 6 h v l)(o:l.length<=1000)(n:Int):∃h',Jg [v,iV n] h=D (iV (gy (l.findIdx? λb=>decide (b.id=n)))) h'/\Nw h h':=by
 obtain⟨m,a,c,k⟩:=mkW h (O (N fZ true) [iV n]);obtain⟨j,e2,d⟩:=yP (r.nw (aK _) c) (aK _) (λb=>decide (b.id=n)) (by omega) (f:=.func (.func ad6) .nil (.cons (X h.next 0) .nil)) (λb cs g _ i e _=>by
  rw[show cs=gB b from e,aoV,arp (k.nw i)];exact⟨_,rfl,Nw.new _ _⟩)
 rw[an4];simp only[vvB,seval,Ur,YK,YJ,<-a,e2];exact⟨j,by simp only[aU,cO,vvB,seval,dn],c.trans d⟩
theorem ars{E:El (List Nat)}{el:TypeId}{b:Nat}{a:List Nat}(o:gK b E el 1 h v [a]):∃u,uJ [v] h=D u h:=by
 have c:=λg=>o.len g;rw[Zw]
 suffices T:aW h! [] (λu h'=>h'=h) (uD (T.set (some v) (b! 0) T.nil) h) by
  obtain⟨u,h',e,rfl⟩:=T;exact⟨u,e⟩
 simp(disch:=omega)only[vvB,seval,uD,GU,c,C!,List.length_nil,show((1:Nat):Int)=1 from rfl];refine(dW (n:=0) (λm fr g=>fr.get (b! 2)=some (Y U 0)/\fr.get (b! 3)=some (Y U 0)/\g=h) (A:=λfr g=>g=h) (B:=λ_ _=>False) (by rw[dO];omega) ⟨qK0,qK1,rfl⟩ ?_).out ?_ ?_
 ·rintro m fr g ⟨f2,f3,rfl⟩;simp(disch:=omega)only[vvB,seval,I7,GR,f2,f3];exact⟨rfl,rfl⟩
 ·rintro fr g rfl;exact aW.nor (qT0) rfl
 ·intro fr g q;exact q.elim
theorem aDU(r:Rws P (flat gB) 6 h v l)(o:TopB l){k:Nat}{b:Bx}(hb:l[k]?=some b):∃h',VT [v,iV b.id] h=D (H b.name) h'/\Nw h h':=by
 have Q:=o.once k b hb;have y:=g! hb;have S:=(c!.1 hb).1;obtain⟨f,e1,t⟩:=auX r o.few b.id;rw[Q]at e1;simp only[gy]at e1;have r1:=r.nw (aK _) t;obtain⟨i,q,cs,W,ex,-,hi,-,ld,-⟩:=r1.elt hb;obtain rfl:cs=gB b:=ex;have n1:=t.next;obtain⟨C,a,e2,z,I,n2,-⟩:=(gK.nil h.next.nat (flat fF) lT 1 f).app (bt:=16) (x:=b.name) (cs:=fF b.name) (P0:=λ_=>False) (aK _) (by omega) rfl rfl (λj _ q=>q.elim) (by simp);have e2:bK lT 1 16 .aO (.slice f.next 0 1 (.kn 1)) (f.new (O (N lT true) [H b.name]))=D C a:=e2;have d:Nw f a:=I.mono λ_ _ e=>by cases e
 have E:=ld f rfl 1 (H b.name) rfl;have G:aF (X i (q+2)) a=D (Y U 0) a:=by
  have:=ld a (d.get i hi λq=>q) 2 (iV b.par) rfl;rw[o.top b y]at this;exact this
 have s:=t.trans d;rw[avU]
 suffices T:aW h! [.tmp 4] (λr h'=>r=H b.name/\Nw h h') (VK (T.set (some (iV b.id)) (b! 1) (T.set (some v) (b! 0) T.nil)) h) by
  obtain⟨r,h',e,rfl,c⟩:=T;exact⟨h',e,c⟩
 simp only[vvB,seval,VK,air,aiq];refine Oc.then (dW (n:=0) (λm fr g=>fr.get (b! 0)=some v/\fr.get (b! 1)=some (iV b.id)/\fr.get (b! 5)=some .aO/\g=h) (A:=λfr g=>fr.get (b! 5)=some C/\g=a) (B:=λ_ _=>False) (by rw[dO];omega) ⟨qK0,qK0,qK0,rfl⟩ ?_) ?_ ?_
 ·rintro m fr g ⟨f0,f1,w,rfl⟩;simp(disch:=omega)only[vvB,seval,ajL,aip,aio,ain,aim,ail,f0,f1,w,e1,UY,r.len,W,E,qo,e2,G];exact⟨rfl,qK0,rfl⟩
 ·rintro fr g ⟨w,rfl⟩;obtain⟨u,L⟩:=ars z;obtain⟨sl,cap⟩:=(z.rws (aK _)).strs;obtain⟨r4,Z,M,rfl,J⟩:=aak (sep:= [47]) sl cap (x! _) (by simp) (by simp) (by have:=(o.name b y).1;simp[iU];omega) (by simpa using (o.name b y).2) (by simp) (.inl (by simp));simp only[vvB,seval,aik,aij,w,L,M];exact aW.ret (r:=H b.name) (qT0) ⟨rfl,s.trans J⟩
 ·intro fr g q;exact q.elim
end
end Go.Proofs.Im
namespace Go.Im
theorem aH3{α:Type}{f:α->Bool}{l:List α}{k:Nat}{x:α}(c:l[k]?=some x)(a:(l.take k).find? f=none)(d:f x=true):l.find? f=some x:=by
 have e:=(c!.1 c).1;have b:=(c!.1 c).2;have:l.find? f=(l.take k++l.drop k).find? f:=by rw[List.take_append_drop]
 rw[this,N!,a,e! e,b];simp[d]
end Go.Im
namespace Go.Proofs.Im
section
variable{h h' g:Hp}{P F I:Pos->Prop}{ps pl ib p ir:Pos}{A:Acc}{cb:Cap}{fb:Bool}{v vm vl:V}{l:List Bx}
theorem aDV(r:Rws P (flat gB) 6 h v l)(hT:TopB l){p:List Nat}(hp:p.length<1000)(E:∀c∈p,c<256)(ab:p≠ []):
  ∃h',VU [v,H p] h=D (.tuple (.cons (iV (match uT l p with|some b=>b.id|none=>0)) (.cons (K (uT l p).isSome) .nil))) h'/\Nw h h':=by
 obtain⟨h1,e1,c1⟩:=aoO h (s:=p) (by omega) E;obtain⟨C,e2,c2⟩:=aoO h1 (s:=jA) (by decide) (by decide);have f:Nw h C:=Nw.trans c1 c2;obtain⟨q,S⟩:∃q,q=aac p:=⟨_,rfl⟩
 have ac:q≠ []:=by
  rw[S];unfold aac;split
  ·simp
  ·exact ab
 have ad:=hT.few;rw[avV]
 suffices T:aW h! [.tmp 4,.tmp 5] (λr h'=>r=.tuple (.cons (iV (match uT l p with|some b=>b.id|none=>0)) (.cons (K (uT l p).isSome) .nil))/\Nw h h') (NW (T.set (some (H p)) (b! 1) (T.set (some v) (b! 0) T.nil)) h) by
  obtain⟨r,h',e,rfl,c⟩:=T;exact⟨h',e,c⟩
 have G:uT l p=l.find? λb=>decide (b.name=q):=by rw[S];rfl
 have d:∀fr:F,fr.get (b! 0)=some v->fr.get (b! 1)=some (H q)->aW h! [.tmp 4,.tmp 5] (λr h'=>r=.tuple (.cons (iV (match uT l p with|some b=>b.id|none=>0)) (.cons (K (uT l p).isSome) .nil))/\Nw h h')
   (qQ (qQ (WH fr C) (bG 0 (dH ajM lf))) (aB WB Out.ret)):=by
  intro fr f0 f1;simp only[vvB,seval,WH,f0,r.len];refine Oc.then (dK (σ:=Unit) (n:=l.length) (pi:=14) (pn:=13) (pc:=15) [0,1,12] (λ_=> [v,H q,v]) (λk _ g=>Nw C g/\(l.take k).find? (λb=>decide (b.name=q))=none)
   (A:=λfr g=>Nw C g/\l.find? (λb=>decide (b.name=q))=none) (B:=λfr g=>∃b,fr.get (b! 4)=some (iV b.id)/\fr.get (b! 5)=some (K true)/\Nw C g/\l.find? (λb=>decide (b.name=q))=some b) (s:=())
   (λfr h _ k e1 e2=>by simp only[vvB,seval,aiu,e1,e2]) (λfr h k _ e1=>by simp(disch:=omega)only[vvB,seval,ais,e1]) (by decide) (by rw[dO];omega) (qK0) (qK0) (by simp only[Fa,vvB,seval,f0,f1,and_self]) ⟨Nw.refl _,by simp⟩ ?_ ?_) ?_ ?_
  ·intro k _ fr g hk m aa fa hI;obtain⟨f0,f1,j,-⟩:=fa;obtain⟨c,a⟩:=hI;obtain⟨x,W⟩:∃x,l[k]?=some x:=⟨_,a! hk⟩
   have rg:=r.nw (aK _) (f.trans c);obtain⟨i,o,cs,ix,ex,-,-,-,-,ln⟩:=rg.elt W;obtain rfl:cs=gB x:=ex;have L:=ln g rfl;obtain⟨z,u⟩:∃z,z=g.new (O (N tBx true) (gB x)):=⟨_,rfl⟩
   have S2:aQ 6 (X g.next 0) (.agg (V.ofList (gB x))) (g.new (O (N tBx true) [(Y U 0),(H []),(Y U 0),(Y U 0),(Y U 0),(Y U 0)]))=D V.undef z:=by rw[u];exact ig (V.dG _) rfl rfl
   have cg:Nw g z:=by rw[u];exact Nw.new _ _
   have k2:Kn z g.next (O (N tBx true) (gB x)):=by rw[u];exact Kn.new _ _
   obtain⟨g3,e3,Z⟩:=aDU (rg.nw (aK _) cg) hT W;have L2:=k2.ld (q:=0) (x:=iV x.id) rfl;have L3:=(k2.nw Z).ld (q:=0) (x:=iV x.id) rfl;have J:(q= [])=False:=eq_false ac;by_cases Q:x.name=q
   ·have w:(x.name=q)=True:=eq_true Q;simp only[vvB,seval,WG,WC,ait,f0,f1,j,m,ix,L,S2,L2,L3,e3,J,w];exact⟨x,qK0,qK0,(c.trans cg).trans Z,aH3 W a (decide_eq_true Q)⟩
   ·have w:(x.name=q)=False:=eq_false Q;simp only[vvB,seval,WG,WC,f0,f1,j,m,ix,L,S2,L2,e3,J,w];refine⟨qK2 m,qK2 aa,(),by simp only[Fa,vvB,seval,f0,f1,j,and_self],(c.trans cg).trans Z,?_⟩;rw[Go.Vm.take_snoc W,N!,a];simp[Q]
  ·intro _ fr g fa hI;obtain⟨c,a⟩:=hI;rw[t!]at a;exact⟨c,a⟩
  ·rintro fr g ⟨c,a⟩;simp only[vvB,seval,WB];refine aW.ret (qT0) ⟨?_,f.trans c⟩;rw[G,a];rfl
  ·rintro fr g ⟨b,f4,f5,c,hb⟩;refine aW.ret (by simp only[cO,seval,f4,f5,dn]<;>rfl) ⟨?_,f.trans c⟩;rw[G,hb];rfl
 by_cases M:foldM p=foldM jA
 ·have t:(foldM p=foldM jA)=True:=eq_true M;have y:q=jA:=by rw[S];unfold aac;rw[if_pos M]
  simp only[vvB,seval,NW,WJ,WI,aiv,e1,e2,t];exact d _ (qK0) (by simp only[vvB,seval];rw[y])
 ·have t:(foldM p=foldM jA)=False:=eq_false M;have y:q=p:=by rw[S];unfold aac;rw[if_neg M]
  simp only[vvB,seval,NW,WJ,WI,e1,e2,t];exact d _ (qK0) (by simp only[vvB,seval];rw[y])
theorem aIq(h:Hp):Xx [H jA] h=D (.tuple (.cons (H jA) (.cons (Y U 0) .nil))) h:=zI (aIj _ _) h
theorem U3{n:Nat}(a:n<100)(h:Hp):lV [Y U (n:Int)] h=D (H (dP n)) h:=zI (ahb a) h
theorem ag8{n:Int}(h0:0<=n)(a:n<100)(h:Hp):lV [Y U n] h=D (H (dP n.toNat)) h:=by
 have:=U3 (n:=n.toNat) (by omega) h;rwa[Int.toNat_of_nonneg h0]at this
theorem aD7(a:dJ h F ps A pl ib cb fb vm vl I)(i:A.Small)(k:TopB A.boxes){w:Wr}{L:List V}(kr:Kn h ir (O w L))(j:L[1]?=some (X ps 0)){b:Bx}(hb:uT A.boxes jA=some b):
  ∃h',V9 [X ir 0,H jA] h=D (.tuple (.cons (iV b.id) (.cons (iV 0) .nil))) h'/\Nw h h':=by
 have c:=kr.ld j;obtain⟨r,m,e1,r1,d,-⟩:=QJ a i;obtain⟨f,e2,e⟩:=aDV r1 k (p:=jA) (by decide) (by decide) (by decide);rw[hb]at e2;simp only[Option.isSome_some]at e2;rw[awd];simp(disch:=omega)only[vvB,seval,agk,ajj,aji,ajh,ajg,ajf,aje,aIq,c,e1,e2];exact⟨f,by simp only[aU,cO,vvB,seval,dn]<;>rfl,d.trans e⟩
theorem aD8{b:Bx}{p:Pos}{n:Int}{w:Wr}(k:Kn g p (O w [iV n])):Oq [.agg (V.ofList (gB b)),X p 0] g=D (K (decide (b.id=n))) (g.new (O (N tBx true) (gB b))):=by
 have e1:=(Kn.new g (O (N tBx true) (gB b))).ld (q:=0) (x:=iV b.id) rfl;have e2:=(k.add (O (N tBx true) (gB b))).ld (q:=0) (x:=iV n) rfl;rw[awf];simp only[vvB,seval,agl,aju,ajt,V.bW,e1,e2];simp only[aU,cO,vvB,seval,dn]
theorem aBo(p:Pos)(x:V)(g:Hp):dI kP (.func (.func asy) .nil (.cons (X p 0) .nil)) [x] g=Oq [x,X p 0] g:=(rfl)
theorem aIb(x:V)(h:Hp):A7 h! tBx x h=bT 6 x h:=kR
theorem aGF(a:dJ h F ps A pl ib cb fb vm vl I)(G:A.Small)(hT:TopB A.boxes){w:Wr}{L:List V}(kr:Kn h ir (O w L))(hL:L[1]?=some (X ps 0)){k:Nat}{b:Bx}(hb:A.boxes[k]?=some b):
  ∃h',abT [X ir 0,iV b.id] h=D (.agg (V.ofList (gB b))) h'/\Nw h h':=by
 have hk:=hT.once k b hb;obtain⟨m,y,C,k1⟩:=mkW h (O (N fZ true) [iV b.id]);obtain⟨h2,z,E,k2⟩:=mkW m (O (N tBx true) [(Y U 0),(H []),(Y U 0),(Y U 0),(Y U 0),(Y U 0)]);have c:=C.trans E;have Q:=(kr.nw c).ld hL;obtain⟨r,h3,e3,M,q,-⟩:=QJ (a.nw c) G;obtain⟨u,t,s⟩:=yP M (aK _) (λx=>decide (x.id=b.id)) (by have:=G.boxes;omega) (f:=.func (.func asy) .nil (.cons (X h.next 0) .nil)) (λx cs g _ Z e _=>by
  rw[show cs=gB x from e,aBo,aD8 (((k1.nw E).nw q).nw Z)];exact⟨_,rfl,Nw.new _ _⟩)
 rw[hk]at t;simp only[gy]at t;obtain⟨i,o,cs,ix,ex,-,-,-,-,ln⟩:=(M.nw (aK _) s).elt hb;obtain rfl:cs=gB b:=ex;have B:=ln u rfl;have J:=(k2.nw q).nw s;obtain⟨j,d⟩:∃j,j=u.put m.next (some (O (N tBx true) (gB b))):=⟨_,rfl⟩
 have S:aQ 6 (X m.next 0) (.agg (V.ofList (gB b))) u=D V.undef j:=by rw[d];exact J.stN rfl rfl
 have k5:Kn j m.next (O (N tBx true) (gB b)):=by rw[d];exact J.put _
 have n1:=C.next;have W:Nw h j:=by rw[d];exact((c.trans q).trans s).put (by omega) _
 rw[axH];simp only[vvB,seval,akV,anH,anG,anF,<-y,<-z,Q,e3,t,ix,B,S];exact⟨j,by simp only[aU,cO,vvB,seval,aIb,k5.ldN (n:=6) rfl,dn],W⟩
end
end Go.Proofs.Im
namespace Go.Ln
def oz:Wds->List (List Nat)
 | .nil=> []
 | .cons _ t _ r=>t::oz r
def Gj:Wds->Bool
 | .nil=>false
 | .cons k _ _ r=>decide (k=3)||Gj r
theorem drop_zero:∀w:Wds,w.drop 0=w
 | .nil=>rfl
 | .cons _ _ _ _=>rfl
theorem P8:∀w:Wds,(oz w).length=w.len
 | .nil=>rfl
 | .cons _ _ _ r=>by simp[oz,Wds.len,P8 r]
theorem auc:∀{w:Wds} {k:Nat} {x:Wd},w.get? k=some x->w.drop k=.cons x.kind x.text x.kids (w.drop (k+1))
 | .nil,_,_,e=>by cases e
 | .cons k t ks r,0,x,e=>by cases e;simp[Wds.drop]
 | .cons k t ks r,n+1,x,e=>by simp only[Wds.drop];exact auc (w:=r) e
theorem aub:∀{w:Wds} {k:Nat},w.len<=k->w.drop k=.nil
 | .nil,0,_=>rfl
 | .nil,k+1,_=>rfl
 | .cons _ _ _ _,0,h=>by simp[Wds.len]at h
 | .cons _ _ _ r,k+1,h=>by simp only[Wds.drop];exact aub (by simp[Wds.len]at h;omega)
end Go.Ln
namespace Go.Vm
theorem lF(t:TypeId)(z:List V)(h:Hp):fE t z h=D (X h.next 0) (h.new (O (N t true) z)):=(rfl)
theorem aAj{h:Hp}{i:Pos}{t:TypeId}{f:Bool}{x y z a b c:V}(d:h.get i=some (O (N t f) [x,y,z])):aQ 3 (X i 0) (.agg (.cons a (.cons b (.cons c .nil)))) h=D V.undef (h.put i (some (O (N t f) [a,b,c]))):=by
 rw[wP d rfl rfl];rfl
theorem aAX{h:Hp}{i:Pos}{wr:Wr}{l:List V}{q:Nat}{v:V}(a:h.get i=some (O wr l))(b:l[q]?=some v):aF (X i q) h=D v h:=by rw[CB a,b]
end Go.Vm
namespace Go.Proofs.Im
theorem aen(t:TypeId)(h:Hp):fE t [Y U 0,H [],.aO] h=D (X h.next 0) (h.new (O (N t true) [Y U 0,H [],.aO])):=(rfl)
theorem WS.atN{P:Pos->Prop}{h:Hp}{v:V}{ws:Wds}(t:WS P h v ws){k:Nat}{w:Wd}(e:ws.get? k=some w):
  ∃j q vk,(∀h',aX 3 v (Y U (k:Int)) h'=D (X j q) h')/\bT 3 (X j q) h=D (.agg (.cons (Y U w.kind) (.cons (H w.text) (.cons vk .nil)))) h:=by
 obtain⟨cs,o,-,i,x⟩:=t;have d:=Wds.Kq e;obtain⟨a,b,vk,c,l⟩:=WAt.get x e;obtain⟨j,q,e1,-,-,e2⟩:=o.atN d;refine⟨j,q,vk,e1,?_⟩;rw[e2 h rfl];obtain⟨l0,x0⟩:=c!.1 a;obtain⟨l1,x1⟩:=c!.1 b;obtain⟨f,g⟩:=c!.1 c;rw[e! l0,e! l1,e! f,x0,x1,g];rfl
def aD2(w:Wds)(n:Nat)(h:Hp)(r:V)(h':Hp):Prop:=
 Ch (λ_=>False) h h'/\((Gj w=true/\r=.tuple (.cons .aO (.cons (K false) .nil)))\/
  (Gj w=false/\∃v,r=.tuple (.cons v (.cons (K (decide (w.len=n))) .nil))/\Ow 0 h' 9 1 v w.len ((oz w).map H)/\∀j,bC v=some j->h.next.nat<=j.nat))
theorem aty{P:Pos->Prop}{b:Nat}{h:Hp}{i:Pos}{t:TypeId}{L:List V}{s:List Nat}{vw:V}{w:Wds}{n:Nat}(d:Bd b h i 5 t L s)(h3:L[3]?=some vw)(tw:WS P h vw w)(hl:w.len<=1000000):
  ∃r h',abV [X i 0,Y U (n:Int)] h=D r h'/\aD2 w n h r h':=by
 rw[aGZ];show aW h! _ (aD2 w n h) _;have R3:aF (X i 3) h=D vw h:=aAX d.get h3;simp(disch:=omega)only[vvB,seval,aBG,azX,azW,azV,R3,WS.len tw];refine Oc.then (dW (n:=w.len) (λm fr g=>∃(k:Nat) (c:V),fr.get (b! 1)=some (Y U (n:Int))/\fr.get (b! 6)=some c/\fr.get (b! 12)=some vw/\fr.get (b! 13)=some (Y U (w.len:Int))/\fr.get (b! 14)=some (Y U (k:Int))/\
   k+m=w.len/\Ow 0 g 9 1 c k (((oz w).take k).map H)/\(∀j,bC c=some j->h.next.nat<=j.nat)/\Gj w=Gj (w.drop k)/\oz w=(oz w).take k++oz (w.drop k)/\Ch (λ_=>False) h g)
  (A:=λfr g=>∃c,fr.get (b! 1)=some (Y U (n:Int))/\fr.get (b! 6)=some c/\Gj w=false/\Ow 0 g 9 1 c w.len ((oz w).map H)/\(∀j,bC c=some j->h.next.nat<=j.nat)/\Ch (λ_=>False) h g)
  (B:=λfr g=>fr.get (b! 4)=some .aO/\fr.get (b! 5)=some (K false)/\Gj w=true/\Ch (λ_=>False) h g) (by rw[dO];omega) ?_ ?_) ?_ ?_
 ·exact⟨0,.aO,qK0,qK0,qK0,qK0,qK1,by omega,by simpa using Ow.nil 0 h 9 1,λj q=>(by cases q),by rw[drop_zero],by rw[drop_zero];rfl,Ch.refl _ _⟩
 ·rintro m fr g ⟨k,c,f1,G,u,f,v,hk,z,p,y,I,a⟩;by_cases hz:m=0
  ·have Q:k=w.len:=by omega
   subst Q;rw[aub (x! _)]at y;rw[<-P8 w,t!,P8 w]at z;simp(disch:=omega)only[vvB,seval,ahk,ahi,f,v];exact⟨rfl,c,qK2 f1,qK2 G,y,z,p,a⟩
  ·have S:k<w.len:=by omega
   obtain⟨x,hx⟩:=Wds.aoL S;have aa:WS P g vw w:=tw.ch a λj _ q=>⟨q,λq=>q⟩
   obtain⟨j,q,vk,i1,i2⟩:=WS.atN aa hx;have hd:=auc hx;obtain⟨e,o⟩:∃e,e=(g.new (O (N Bq true) [Y U 0,H [],.aO])).put g.next (some (O (N Bq true) [Y U x.kind,H x.text,vk])):=⟨_,rfl⟩
   have E:Ch (λ_=>False) g e:=by rw[o];exact ag0 _ _ _
   have w2:e.get g.next=some (O (N Bq true) [Y U x.kind,H x.text,vk]):=by rw[o];exact kL _ _ _
   have K0:aF (X g.next 0) e=D (Y U x.kind) e:=aAX w2 rfl;have K1:aF (X g.next 1) e=D (H x.text) e:=aAX w2 rfl;rw[hd]at y I;simp only[Gj]at y;simp only[oz]at I;have Z:((oz w).take k).length=k:=by rw[n!,P8];omega
   have C:(oz w).take (k+1)=(oz w).take k++ [x.text]:=by
    have:(oz w)[k]?=some x.text:=by
     rw[I,List.getElem?_append_right (by omega),Z,Nat.sub_self];rfl
    rw[M!,this];rfl
   by_cases l:x.kind=3
   ·have J:aF (X g.next 0) e=D (Y U 3) e:=by rw[K0,l]
    simp(disch:=omega)only[vvB,seval,ahk,ahi,aps,apr,azU,u,f,v,i1,i2,aAj (dX _ _),<-o,J];refine⟨qK0,qK0,by rw[y,l];rfl,a.trans E λ_ _ q=>q⟩
   ·have o2:=z.ch E λ_ _ q=>q;obtain⟨v',g3,e3,rfl,o3,c3,n3⟩:=ayG (bt:=16) (new:= [H x.text]) o2 rfl (by omega);simp(disch:=omega)only[vvB,seval,ahk,ahi,aps,apr,azT,azS,G,u,f,v,i1,i2,aAj (dX _ _),<-o,K0,K1,l,qo,e3];have M:Ch (λ_=>False) h g3:=by
     have ca:=a.trans E λ_ _ q=>q;exact ca.trans c3 λj hj q=>by have:=p j q;omega
    exact⟨m - 1,by omega,k+1,.slice e.next.succ 0 (k+1) (.un 1),qK2 f1,qK0,qK2 u,qK2 f,qK1,by omega,by rw[C,E!];exact o3,
     λj q=>by cases q;have:=a.next;have:=E.next;rw[Pos.fG];omega,by rw[y,decide_eq_false l,Bool.false_or],by rw[C];rw[l!];exact I,M⟩
 ·rintro fr g ⟨c,f1,G,W,z,p,a⟩;have L0:aZ 2 c g=D (Y U (w.len:Int)) g:=z.sl.length;have hd:decide ((w.len:Int)=(n:Int))=decide (w.len=n):=decide_eq_decide.2 (by omega);simp(disch:=omega)only[vvB,seval,azR,f1,G,L0,hd];exact aW.ret (qT0) ⟨a,.inr ⟨W,c,rfl,z,p⟩⟩
 ·rintro fr g ⟨f4,f5,hl,a⟩;exact aW.ret (by simp only[cO,seval,f4,f5,dn];rfl) ⟨a,.inl ⟨hl,rfl⟩⟩
end Go.Proofs.Im
namespace Go.Im
structure Sn where
 acc:Acc
 inn:Bool
 only:Bool
 cnt:Int
 vw:Option (Int×Int×List (Int×Int×Int))
abbrev anL(k:Int)(t:List Nat)(last bare part:Bool):List V:= [iV k,H t,K last,K bare,K part]
abbrev anV(k:Int)(t:List Nat)(last bare part:Bool):V:=.agg (V.ofList (anL k t last bare part))
abbrev zAn:List V:= [Y U 0,H [],K false,K false,K false]
theorem aOZ(h:Hp):bU zAn [] h=D (anV 0 [] false false false) h:=(rfl)
theorem aLV(s:List Nat)(h:Hp):bU zAn [(1,1,H s),(3,1,K true)] h=D (anV 0 s false true false) h:=(rfl)
end Go.Im
namespace Go.Proofs.Im
section
variable{bb:Nat}{h h' h0:Hp}{P F I J Z S:Pos->Prop}{ps pl ib p pv ir pc im:Pos}{cb:Cap}{fb uid:Bool}{vm vl vv vw:V}{st a:Sn}{L:List V}{s:List Nat}{w:Wds}
theorem Ei(x:V)(h:Hp):A7 h! tA x h=bT 5 x h:=kR
def aaz:List (List Nat×Nat×Nat×Bool):= [
 ([99,97,112,97,98,105,108,105,116,121],aLk,0,false),
 ([110,111,111,112],aAg,0,false),
 ([108,111,103,111,117,116],aLj,0,false),
 ([108,111,103,105,110],aEU,1,false),
 ([115,101,108,101,99,116],ajS,2,false),
 ([101,120,97,109,105,110,101],ahF,2,false),
 ([99,114,101,97,116,101],alk,2,false),
 ([100,101,108,101,116,101],asw,2,false),
 ([114,101,110,97,109,101],ali,2,false),
 ([108,105,115,116],asv,2,false),
 ([115,116,97,116,117,115],alg,2,false),
 ([97,112,112,101,110,100],alm,2,false),
 ([99,104,101,99,107],aAg,3,false),
 ([99,108,111,115,101],ap6,3,false),
 ([101,120,112,117,110,103,101],ahE,3,true),
 ([115,101,97,114,99,104],alh,3,true),
 ([102,101,116,99,104],ap5,3,true),
 ([115,116,111,114,101],UR,3,true),
 ([99,111,112,121],asx,3,true),
 ([109,111,118,101],asu,3,true)]
def aFN(pc:Pos)(c:Nat×Nat×Bool):V:=.agg (.cons (.func (.func c.1) (.cons (X pc 0) .nil) .nil) (.cons (Y U (c.2.1:Int)) (.cons (K c.2.2) .nil)))
def iw(pc:Pos):List (V×V):=aaz.map λc=>(H c.1,aFN pc c.2)
def VwO(h:Hp)(J:Pos->Prop)(vv:V):Option (Int×Int×List (Int×Int×Int))->Prop
 |none=>vv=.bY/\∀j,¬J j
 |some x=>∃pv vw m,vv=X pv 0/\VwK h J pv x.1 x.2.1 m vw/\m.map mgK=x.2.2
theorem VwO.ch{o:Option (Int×Int×List (Int×Int×Int))}(x:VwO h J vv o)(c:Ch S h h')(d:∀j,J j->¬S j):VwO h' J vv o:=by
 cases o with
 |none=>exact x
 |some o=>obtain⟨pv,vw,m,e,k,b⟩:=x;exact⟨pv,vw,m,e,k.ch c d,b⟩
theorem VwO.lt{o:Option (Int×Int×List (Int×Int×Int))}(x:VwO h J vv o):∀j,J j->j.nat<h.next.nat:=by
 cases o with
 |none=>exact λj q=>(x.2 j q).elim
 |some o=>obtain⟨pv,vw,m,e,k,b⟩:=x;exact k.lt
theorem VwO.cell{o:Option (Int×Int×List (Int×Int×Int))}(x:VwO h J vv o):vv.cells= [vv]/\gW vv=true:=by
 cases o with
 |none=>rw[x.1];exact⟨rfl,rfl⟩
 |some o=>obtain⟨pv,vw,m,rfl,k,b⟩:=x;exact⟨rfl,rfl⟩
abbrev Ft(F J:Pos->Prop)(pc im:Pos):Pos->Prop:=λj=>F j\/J j\/j=pc\/j=im
structure World (h:Hp) (pc im ps:Pos) (st:Sn) (F J:Pos->Prop) (pl ib:Pos) (cb:Cap) (fb:Bool) (vm vl vv:V) (I:Pos->Prop):Prop where
 acc:dJ h F ps st.acc pl ib cb fb vm vl I
 con:Kn h pc (O (N tCn true) [K st.inn,vv,K st.only,iV st.cnt,.map im])
 map:Kn h im (.map (iw pc))
 view:VwO h J vv st.vw
 ne:pc≠im
 fj:∀j,F j->¬J j/\j≠pc/\j≠im
 jn:∀j,J j->j≠pc/\j≠im
theorem World.ch(x:World h pc im ps st F J pl ib cb fb vm vl vv I)(c:Ch S h h')(b:∀j,Ft F J pc im j->¬S j):World h' pc im ps st F J pl ib cb fb vm vl vv I where
 acc:=x.acc.ch c λj f=>b j (.inl f)
 con:=x.con.ch c (b _ (.inr (.inr (.inl rfl))))
 map:=x.map.ch c (b _ (.inr (.inr (.inr rfl))))
 view:=x.view.ch c λj f=>b j (.inr (.inl f))
 ne:=x.ne
 fj:=x.fj
 jn:=x.jn
theorem World.lt(x:World h pc im ps st F J pl ib cb fb vm vl vv I):∀j,Ft F J pc im j->j.nat<h.next.nat:=λj q=>by
 rcases q with q|q|rfl|rfl
 ·exact x.acc.lt j q
 ·exact x.view.lt j q
 ·exact x.con.2
 ·exact x.map.2
theorem World.al8(x:World h pc im ps st F J pl ib cb fb vm vl vv I){d:Pos->Prop}{b:V}(i:a.acc=st.acc)(k:VwO h d b a.vw)(g:∀j,d j->¬F j/\j≠pc/\j≠im):
  World (h.put pc (some (O (N tCn true) [K a.inn,b,K a.only,iV a.cnt,.map im]))) pc im ps a F d pl ib cb fb vm vl b I:=by
 have c:Ch (λj=>j=pc) h (h.put pc (some (O (N tCn true) [K a.inn,b,K a.only,iV a.cnt,.map im]))):=Ch.put _ _ rfl;refine⟨?_,x.con.put _,x.map.ch c λe=>x.ne e.symm,k.ch c λj q=>(g j q).2.1,x.ne,λj f=>⟨λq=>(g j q).1 f,(x.fj j f).2⟩,λj q=>(g j q).2⟩;rw[i];exact x.acc.ch c λj f=>(x.fj j f).2.1
structure Rq (bb:Nat) (h0:Hp) (Z:Pos->Prop) (h:Hp) (pc im ps ir:Pos) (uid:Bool) (w:Wds) (s:List Nat) (st:Sn) (L:List V) (vw:V) (P F J:Pos->Prop) (pl ib:Pos) (cb:Cap) (fb:Bool) (vm vl vv:V) (I:Pos->Prop):Prop where
 bd:Bd bb h ir 5 tRq L s
 hbb:bb<=h0.next.nat
 ob:∀j,OfB ir 5 L j->Z j\/h0.next.nat<=j.nat
 l1:L[1]?=some (X ps 0)
 l3:L[3]?=some vw
 l4:L[4]?=some (K uid)
 l0:L[0]?=some (X pc 0)
 ws:WS P h vw w
 wd:World h pc im ps st F J pl ib cb fb vm vl vv I
 dis:∀j,OfB ir 5 L j->¬Ft F J pc im j
 old:∀j,P j->j.nat<bb/\¬Z j
 foot:∀j,Ft F J pc im j->Z j\/h0.next.nat<=j.nat
 chz:Ch Z h0 h
def Ep(bb:Nat)(h0:Hp)(Z:Pos->Prop)(vw:V)(P:Pos->Prop)(h:Hp)(pc im ps ir:Pos)(uid:Bool)(w:Wds)(s:List Nat)(st:Sn):Prop:=
 ∃L F J pl ib cb fb vm vl vv I,Rq bb h0 Z h pc im ps ir uid w s st L vw P F J pl ib cb fb vm vl vv I
theorem Rq.mk'(q:Rq bb h0 Z h pc im ps ir uid w s st L vw P F J pl ib cb fb vm vl vv I):Ep bb h0 Z vw P h pc im ps ir uid w s st:=⟨_,_,_,_,_,_,_,_,_,_,_,q⟩
theorem Rq.nw(q:Rq bb h0 Z h pc im ps ir uid w s st L vw P F J pl ib cb fb vm vl vv I)(c:Nw h h'):Rq bb h0 Z h' pc im ps ir uid w s st L vw P F J pl ib cb fb vm vl vv I where
 bd:=q.bd.ch c λ_ _ _ q=>q
 l0:=q.l0
 l1:=q.l1
 l3:=q.l3
 l4:=q.l4
 ws:=q.ws.ch c λj _ q=>⟨q,λq=>q⟩
 wd:=q.wd.ch c λ_ _ q=>q
 dis:=q.dis
 old:=q.old
 hbb:=q.hbb
 ob:=q.ob
 foot:=q.foot
 chz:=q.chz.nw c
theorem Rq.kr(q:Rq bb h0 Z h pc im ps ir uid w s st L vw P F J pl ib cb fb vm vl vv I):Kn h ir (O (N tRq true) L):=⟨q.bd.get,q.bd.hi⟩
theorem Rq.turn(q:Rq bb h0 Z h pc im ps ir uid w s st L vw P F J pl ib cb fb vm vl vv I){n r v:Pos->Prop}{g f:Pos}{b:Cap}{d:Bool}{k i m:V}(u:World h' pc im ps a n r g f b d k i m v)(c:Ch S h h')
  (t:∀j,S j->Ft F J pc im j) (x:∀j,Ft n r pc im j->Ft F J pc im j\/h.next.nat<=j.nat):Rq bb h0 Z h' pc im ps ir uid w s a L vw P n r g f b d k i m v where
 bd:=q.bd.chO c λj o e=>q.dis j o (t j e)
 l0:=q.l0
 l1:=q.l1
 l3:=q.l3
 l4:=q.l4
 ws:=q.ws.ch c λj _ p=>⟨p,λe=>by
  have:=q.old j p;rcases q.foot j (t j e) with z|z
  ·exact this.2 z
  ·have:=q.hbb;omega⟩
 wd:=u
 dis:=λj o e=>(x j e).elim (q.dis j o) λl=>by have:=(o.from q.bd _).2;omega
 old:=q.old
 hbb:=q.hbb
 ob:=q.ob
 foot:=λj e=>(x j e).elim (q.foot j) λl=>.inr (I! q.chz.next l)
 chz:=q.chz.trans c λj y e=>(q.foot j (t j e)).resolve_right (by omega)
theorem Rq.say(q:Rq bb h0 Z h pc im ps ir uid w s st L vw P F J pl ib cb fb vm vl vv I){el:TypeId}(l:List (List Nat)){n:Nat}(m:l.length=n)(hl:n<=100)(v:iU l<=100000000)(hb:∀t∈l,∀c∈t,c<256)(i:n<=1\/dV [32] l≠ [])(u:s.length+(dV [32] l).length+2<=1000000000):
  ∃r h' d,zC [X ir 0,.slice h.next 0 n (.kn n)] (h.new (O (N el true) (l.map H)))=D r h'/\Rq bb h0 Z h' pc im ps ir uid w (s++(dV [32] l++ [13,10])) st d vw P F J pl ib cb fb vm vl vv I/\Stp (OfB ir 5 L) h (OfB ir 5 d) h':=by
 obtain⟨r,h',d,e,k,b,g,x⟩:=axT (el:=el) q.bd l m hl v hb i u;refine⟨r,h',d,e,⟨k,q.hbb,λj o=>(b.sub j o).elim (q.ob j) λl=>.inr (I! q.chz.next l),by rw[g 1 (by omega) (by omega)];exact q.l1,by rw[g 3 (by omega) (by omega)];exact q.l3,by rw[g 4 (by omega) (by omega)];exact q.l4,by rw[g 0 (by omega) (by omega)];exact q.l0,?_,q.wd.ch b.ch λj f o=>q.dis j o f,?_,q.old,q.foot,?_⟩,b⟩
 ·exact q.ws.ch b.ch λj _ p=>⟨p,λo=>by have:=(q.old j p).1;have:=(o.from q.bd _).1;omega⟩
 ·intro j o f;rcases b.sub j o with o|o
  ·exact q.dis j o f
  ·have:=q.wd.lt j f;omega
 ·exact q.chz.trans b.ch λj i o=>(q.ob j o).resolve_right (by omega)
theorem Rq.aCn(q:Rq bb h0 Z h pc im ps ir uid w s st L vw P F J pl ib cb fb vm vl vv I):Rq bb h (λj=>Ft F J pc im j\/OfB ir 5 L j) h pc im ps ir uid w s st L vw P F J pl ib cb fb vm vl vv I where
 bd:=q.bd
 hbb:=I! q.hbb q.chz.next
 ob:=λj o=>.inl (.inr o)
 l0:=q.l0
 l1:=q.l1
 l3:=q.l3
 l4:=q.l4
 ws:=q.ws
 wd:=q.wd
 dis:=q.dis
 old:=λj p=>⟨(q.old j p).1,λe=>e.elim (λf=>(q.foot j f).elim (q.old j p).2 λl=>by have:=(q.old j p).1;have:=q.hbb;omega) λo=>by have:=(q.old j p).1;have:=(o.from q.bd _).1;omega⟩
 foot:=λj f=>.inl (.inl f)
 chz:=Ch.refl _ _
theorem Rq.comp(q:Rq bb h0 Z h pc im ps ir uid w s st L vw P F J pl ib cb fb vm vl vv I){g:Hp}{b:Bool}{u:Wds}{s2:List Nat}{st2:Sn}(r:Ep bb h (λj=>Ft F J pc im j\/OfB ir 5 L j) vw P g pc im ps ir b u s2 st2):
  Ep bb h0 Z vw P g pc im ps ir b u s2 st2/\Ch (λj=>Ft F J pc im j\/OfB ir 5 L j) h g:=by
 obtain⟨z,v,y,l,k,c,d,n,m,t,x,r⟩:=r;have i:∀j,(Ft F J pc im j\/OfB ir 5 L j)\/h.next.nat<=j.nat->Z j\/h0.next.nat<=j.nat:=λj e=>by
  rcases e with(e|e)|e
  ·exact q.foot j e
  ·exact q.ob j e
  ·have:=q.chz.next;exact .inr (by omega)
 exact⟨⟨z,v,y,l,k,c,d,n,m,t,x,
  {bd:=r.bd
   hbb:=q.hbb
   ob:=λj o=>i j (r.ob j o)
   l0:=r.l0
   l1:=r.l1
   l3:=r.l3
   l4:=r.l4
   ws:=r.ws
   wd:=r.wd
   dis:=r.dis
   old:=q.old
   foot:=λj f=>i j (r.foot j f)
   chz:=q.chz.trans r.chz λj B e=>(i j (.inl e)).resolve_right (by omega)}⟩,r.chz⟩
end
end Go.Proofs.Im
namespace Go.Im
theorem XQ(t:TypeId)(a b c:List Nat)(h:Hp):bJ t [H [],H [],H []] 3 [(0,1,H a),(1,1,H b),(2,1,H c)] h=D (.slice h.next 0 3 (.kn 3)) (h.new (O (N t true) [H a,H b,H c])):=(rfl)
theorem je{n:Nat}(a:n<100):(dP n).length<=2/\(∀c∈dP n,c<256)/\dP n≠ []:=by
 unfold dP;split
 ·rename_i h;have:n<10:=by simpa[T!]using h
  exact⟨by simp,by simp;omega,by simp⟩
 ·exact⟨by simp,by simp;omega,by simp⟩
def lineS(l:List (List Nat)):List Nat:=dV [32] l++ [13,10]
abbrev atZ:List Nat:= [42,32,70,76,65,71,83,32,40,92,65,110,115,119,101,114,101,100,32,92,70,108,97,103,103,101,100,32,92,68,101,108,101,116,101,100,32,92,83,101,101,110,32,92,68,114,97,102,116,41]
abbrev ag1:List Nat:= [69,88,73,83,84,83]
abbrev aok:List Nat:= [42,32,48,32,82,69,67,69,78,84]
abbrev ad3:List Nat:= [42,32,79,75,32,91,85,73,68,86,65,76,73,68,73,84,89,32]
abbrev alN:List Nat:= [42,32,79,75,32,91,85,73,68,78,69,88,84,32]
abbrev atB:List Nat:= [42,32,79,75,32,91,72,73,71,72,69,83,84,77,79,68,83,69,81,32]
abbrev roS:List Nat:= [82,69,65,68,45,79,78,76,89]
abbrev rwS:List Nat:= [82,69,65,68,45,87,82,73,84,69]
def qp(n:Nat)(valid next clock:Int):List Nat:=
 lineS [atZ]++(lineS [[42],dP n,ag1]++(lineS [aok]++(lineS [ad3++dP valid.toNat++ [93]]++(lineS [alN++dP next.toNat++ [93]]++lineS [atB++dP clock.toNat++ [93]]))))
def dR(A:Acc)(box:Int):Int×Int×List (Int×Int×Int):=(box,aeG (Wn A.mails box),(Wn A.mails box).map thK)
structure CanBox (A:Acc) (k:Nat) (b:Bx):Prop where
 small:A.Small
 top:TopB A.boxes
 at_:A.boxes[k]?=some b
 named:uT A.boxes jA=some b
 sorted:(Wn A.mails b.id).Pairwise λx y=>x.1<y.1
 few:(Wn A.mails b.id).length<50
 valid:0<=b.valid/\b.valid<100
 next:0<=b.next/\b.next<100
 clock:A.clock<100
theorem CanBox.has{A:Acc}{k:Nat}{b:Bx}(c:CanBox A k b):(A.boxes.any λx=>decide (x.id=b.id))=true:=
 List.any_eq_true.2 ⟨b,g! c.at_,decide_eq_true rfl⟩
end Go.Im
namespace Go.Proofs.Im
section
variable{h h' g h0:Hp}{P F I J Z S:Pos->Prop}{ps pl ib p pv ir pc im a0:Pos}{cb:Cap}{fb uid only:Bool}{v vm vl vv vw:V}{st:Sn}{L:List V}{s:List Nat}{w:Wds}{o:Ob}{k:Nat}{b:Bx}{bb:Nat}
theorem keepA{L a:List V}(c:Stp (OfB ir 5 L) h (OfB ir 5 a) h')(d:Kn h a0 o)(e:¬OfB ir 5 L a0):Kn h' a0 o/\¬OfB ir 5 a a0:=
 ⟨d.ch c.ch e,λo=>(c.sub _ o).elim e λl=>by have:=d.2;omega⟩
theorem Rq.alD(q:Rq bb h0 Z h pc im ps ir uid w s st L vw P F J pl ib cb fb vm vl vv I)(c:Ch (λj=>j=a0) h h')(i:¬OfB ir 5 L a0)(l:¬Ft F J pc im a0)(hb:h0.next.nat<=a0.nat):Rq bb h0 Z h' pc im ps ir uid w s st L vw P F J pl ib cb fb vm vl vv I where
 bd:=q.bd.chO c λj o e=>i (e▸o)
 l0:=q.l0
 l1:=q.l1
 l3:=q.l3
 l4:=q.l4
 ws:=q.ws.ch c λj _ p=>⟨p,λe=>by have a:=(q.old j p).1;have m:=q.hbb;rw[e]at a;omega⟩
 wd:=q.wd.ch c λj f e=>l (e▸f)
 dis:=q.dis
 old:=q.old
 hbb:=q.hbb
 ob:=q.ob
 foot:=q.foot
 chz:=q.chz.trans c λj d e=>by rw[e]at d;omega
theorem aEK(q:Rq bb h0 Z h pc im ps ir uid w s st L vw P F J pl ib cb fb vm vl vv I)(only:Bool)(bp:w.len=1)(ce:oz w= [jA])(cd:Gj w=false)(C:CanBox st.acc k b)(cB:s.length<=100000):
  ∃h',DI [X pc 0,X ir 0,K only] h=D (anV 0 (if only=true then roS else rwS) false true false) h'/\
   Ep bb h0 Z vw P h' pc im ps ir uid w (s++qp (Wn st.acc.mails b.id).length b.valid b.next st.acc.clock) {st with only:=only,vw:=some (dR st.acc b.id)}:=by
 obtain⟨h1,bl,c1,k1⟩:=mkW h (O (N tA true) zAn);have q1:=q.nw c1;have co:¬OfB ir 5 L h.next:=λo=>by have:=(o.from q.bd _).2;omega
 have a1:¬Ft F J pc im h.next:=λo=>by have:=q.wd.lt _ o;omega
 have e2:=aty (n:=1) q1.bd q1.l3 q1.ws (by omega);obtain⟨r2,h2,e2,c2,hN⟩:=e2;have bi:abV [X ir 0,Y U 1] h1=D r2 h2:=e2;obtain⟨v,rfl,ov,aL⟩:∃v,r2=.tuple (.cons v (.cons (K true) .nil))/\Ow 0 h2 9 1 v 1 ([jA].map H)/\∀j,bC v=some j->h1.next.nat<=j.nat:=by
  rcases hN with⟨hL,-⟩|⟨-,v,rfl,ov,aL⟩
  ·rw[cd]at hL;cases hL
  ·rw[bp,ce]at ov;exact⟨v,by rw[decide_eq_true bp],ov,aL⟩
 obtain⟨iv,fv,hv,kv,cR⟩:∃iv fv,v=.slice iv 0 1 (.un 1)/\Kn h2 iv (O (N 9 fv) [H jA])/\h1.next.nat<=iv.nat:=by
  rcases ov.is with⟨h0,_⟩|⟨i,e,hb,hi,f,hg⟩
  ·omega
  ·exact⟨i,f,e,⟨hg,hi⟩,aL i (by rw[e];rfl)⟩
 have ix:∀g,aX 1 v (Y U 0) g=D (X iv 0) g:=λg=>by rw[hv];rfl
 have aq:Nw h1 h2:=c2;have q2:=q1.nw aq;have k2:=k1.nw aq;have n1:=c1.next;have n2:=aq.next;have aM:=q.wd.con.2;have cQ:=q.wd.map.2;obtain⟨d,z⟩:∃d,d=({st with only:=false,vw:=none}:Sn):=⟨_,rfl⟩
 have S3:=q2.wd.con.st (q:=1) (y:=.bY) ⟨rfl,rfl⟩ (by simp);have bg:aQ 1 (X pc 1) .bY h2=D V.undef (h2.put pc (some (O (N tCn true) [K st.inn,.bY,K st.only,iV st.cnt,.map im]))):=S3;obtain⟨h4,aD⟩:∃h4,h4=h2.put pc (some (O (N tCn true) [K d.inn,.bY,K d.only,iV d.cnt,.map im])):=⟨_,rfl⟩
 have S4:aQ 1 (X pc 2) (K false) (h2.put pc (some (O (N tCn true) [K st.inn,.bY,K st.only,iV st.cnt,.map im])))=D V.undef h4:=by
  rw[(q2.wd.con.put (O (N tCn true) [K st.inn,.bY,K st.only,iV st.cnt,.map im])).st (q:=2) (y:=K false) ⟨rfl,rfl⟩ (by simp),aol,aD,z];rfl
 have w4:World h4 pc im ps d F (λ_=>False) pl ib cb fb vm vl .bY I:=by
  rw[aD];exact q2.wd.al8 (by rw[z]) (by rw[z];exact⟨rfl,λ_ q=>q⟩) λ_ q=>q.elim
 have c4:Ch (λj=>j=pc) h2 h4:=by rw[aD];exact Ch.put _ _ rfl
 have q4:=q2.turn w4 c4 (λj e=>.inr (.inr (.inl e))) λj f=>by
  rcases f with f|f|f|f
  ·exact .inl (.inl f)
  ·exact f.elim
  ·exact .inl (.inr (.inr (.inl f)))
  ·exact .inl (.inr (.inr (.inr f)))
 have n4:=c4.next;have k4:=k2.ch c4 λe=>by rw[<-e]at aM;omega
 have cm:=kv.ch c4 λe=>by rw[<-e]at aM;omega
 have a:d.acc=st.acc:=by rw[z]
 have V4:=cm.ld (q:=0) (x:=H jA) rfl;have R1:∀{h:Hp} {s:List Nat} {st:Sn} {L:List V} {F J I:Pos->Prop} {pl ib:Pos} {cb:Cap} {fb:Bool} {vm vl vv:V},Rq bb h0 Z h pc im ps ir uid w s st L vw P F J pl ib cb fb vm vl vv I->aF (X ir 1) h=D (X ps 0) h:=λq=>q.kr.ld q.l1;obtain⟨h5,e5,c5⟩:=aD7 q4.wd.acc (by rw[a];exact C.small) (by rw[a];exact C.top) q4.kr q4.l1 (by rw[a];exact C.named);have q5:=q4.nw c5;have k5:=k4.nw c5;have n5:=c5.next;obtain⟨pv,h6,cz,l6,e6,vg,c6,bm⟩:=aF1 q5.wd.acc (by rw[a];exact C.small) (box:=b.id) (by rw[a];exact C.sorted) (by rw[a];exact C.few) (by rw[a];exact C.has);rw[a]at vg bm;have n6:=c6.next;obtain⟨E,r⟩:∃E,E=({st with only:=only,vw:=some (dR st.acc b.id)}:Sn):=⟨_,rfl⟩
 have w6:=q5.wd.ch c6 λ_ _ q=>q;have S7:aQ 1 (X pc 1) (X pv 0) h6=D V.undef (h6.put pc (some (O (N tCn true) [K d.inn,X pv 0,K d.only,iV d.cnt,.map im]))):=w6.con.st (q:=1) (y:=X pv 0) ⟨rfl,rfl⟩ (by simp);obtain⟨h8,aE⟩:∃h8,h8=h6.put pc (some (O (N tCn true) [K E.inn,X pv 0,K E.only,iV E.cnt,.map im])):=⟨_,rfl⟩
 have S8:aQ 1 (X pc 2) (K only) (h6.put pc (some (O (N tCn true) [K d.inn,X pv 0,K d.only,iV d.cnt,.map im])))=D V.undef h8:=by
  rw[(w6.con.put (O (N tCn true) [K d.inn,X pv 0,K d.only,iV d.cnt,.map im])).st (q:=2) (y:=K only) ⟨rfl,rfl⟩ (by simp),aol,aE,r,z];rfl
 have cc:=vg.vwr;have w8:World h8 pc im ps E F (λj=>h5.next.nat<=j.nat/\j.nat<h6.next.nat) pl ib cb fb vm vl (X pv 0) I:=by
  rw[aE];exact w6.al8 (by rw[r,a]) (by rw[r];exact⟨pv,cz,l6,rfl,cc,bm⟩) λj q=>⟨λf=>by have:=q5.wd.acc.lt j f;omega,λe=>by rw[e]at q;omega,λe=>by rw[e]at q;omega⟩
 have ar:Ch (λj=>j=pc) h5 h8:=by rw[aE];exact c6.ch.trans (Ch.put (S:=λj=>j=pc) _ _ rfl) λ_ _ q=>q
 have q8:=q5.turn w8 ar (λj e=>.inr (.inr (.inl e))) λj f=>by
  rcases f with f|f|f|f
  ·exact .inl (.inl f)
  ·exact .inr f.1
  ·exact .inl (.inr (.inr (.inl f)))
  ·exact .inl (.inr (.inr (.inr f)))
 have k8:=k5.ch ar λe=>by rw[<-e]at aM;omega
 have u:E.acc=st.acc:=by rw[r]
 have n8:=ar.next;obtain⟨h9,e9,c9⟩:=aGF q8.wd.acc (by rw[u];exact C.small) (by rw[u];exact C.top) q8.kr q8.l1 (by rw[u];exact C.at_);obtain⟨Q,aa⟩:∃Q,Q=h9.new (O (N tBx true) (gB b)):=⟨_,rfl⟩
 have bf:aQ 6 (X h9.next 0) (.agg (V.ofList (gB b))) (h9.new (O (N tBx true) [(Y U 0),(H []),(Y U 0),(Y U 0),(Y U 0),(Y U 0)]))=D V.undef Q:=by rw[aa];exact ig (V.dG _) rfl rfl
 have ao:Nw h9 Q:=by rw[aa];exact Nw.new _ _
 have br:Kn Q h9.next (O (N tBx true) (gB b)):=by rw[aa];exact Kn.new _ _
 have cs:=(q8.nw c9).nw ao;have cf:=(k8.nw c9).nw ao;have n9:=c9.next;have cS:=ao.next;have bE:¬OfB ir 5 L h9.next:=λo=>by have:=(o.from (q8.nw c9).bd _).2;omega
 obtain⟨cV,cK,cE,au,a2,bR⟩:=cs.say (el:=9) [atZ] (n:=1) rfl (by omega) (by decide) (by decide) (.inl (by omega)) (by simp[dV];omega);simp only[o!,q!]at au;obtain⟨cg,bv⟩:=keepA bR cf co;obtain⟨bs,bL⟩:=keepA bR br bE;have ac:=a2.wd.view;rw[r]at ac;obtain⟨cT,cD,cn,ca,b1,bn⟩:=ac;cases ca;have be:=a2.wd.con.ld (q:=1) (x:=X pv 0) rfl;have b9:cn.length=(Wn st.acc.mails b.id).length:=by have:=congrArg R! bn;simpa[dR]using this
 have cA:=C.few;obtain⟨cU,b7,bh,cp,ap⟩:=aeP b1 (by omega);have a8:=U3 (n:=(Wn st.acc.mails b.id).length) (by omega);have aR:=cp.len b7;rw[p!,b9]at aR;have ct:=a2.nw ap;have b3:=je (n:=(Wn st.acc.mails b.id).length) (by omega);obtain⟨cW,cL,cF,av,cu,bS⟩:=ct.say (el:=9) [[42],dP (Wn st.acc.mails b.id).length,ag1] (n:=3) rfl (by omega) (by simp[iU];omega) (by
  intro t G;simp at G;rcases G with rfl|rfl|rfl
  ·decide
  ·exact b3.2.1
  ·decide) (.inr (by simp[dV])) (by simp[dV];omega)
 simp only[o!,q!]at av;obtain⟨ci,bw⟩:=keepA bS (cg.nw ap) bv;obtain⟨bt,bM⟩:=keepA bS (bs.nw ap) bL;obtain⟨cX,cM,cG,aw,cv,bX⟩:=cu.say (el:=9) [aok] (n:=1) rfl (by omega) (by decide) (by decide) (.inl (by omega)) (by simp[dV];omega);simp only[o!,q!]at aw;obtain⟨cj,bx⟩:=keepA bX ci bw;obtain⟨ak,bN⟩:=keepA bX bt bM;have aj:=C.valid;have bo:=C.next;have b8:=C.clock;have bk:=C.small.clock;have a9:=ag8 aj.1 aj.2;have a6:=ak.ld (q:=3) (x:=iV b.valid) rfl;have b4:=je (n:=b.valid.toNat) (by omega);have Sa:∀(x y:List Nat) (g:Hp),x.length+y.length<1000->aI .add .none (H x) (H y) g=D (H (x++y)) g:=λx y g hl=>gu (by omega);have a3:=λg=>Sa ad3 (dP b.valid.toNat) g (by simp;omega);have ag:=λg=>Sa (ad3++dP b.valid.toNat) [93] g (by simp;omega);obtain⟨cY,cN,cH,ax,cw,b0⟩:=cv.say (el:=9) [ad3++dP b.valid.toNat++ [93]] (n:=1) rfl (by omega) (by simp[iU];omega) (by
  intro t G;simp only[y!]at G;subst G;intro c m;rw[i!,i!]at m;rcases m with(m|m)|m
  ·revert c;decide
  ·exact b4.2.1 c m
  ·revert c;decide) (.inl (by omega)) (by simp[dV];omega)
 simp only[o!,q!]at ax;obtain⟨ck,bz⟩:=keepA b0 cj bx;obtain⟨bu,cC⟩:=keepA b0 ak bN;have ba:=ag8 bo.1 bo.2;have a7:=bu.ld (q:=4) (x:=iV b.next) rfl;have b5:=je (n:=b.next.toNat) (by omega);have a4:=λg=>Sa alN (dP b.next.toNat) g (by simp;omega);have ah:=λg=>Sa (alN++dP b.next.toNat) [93] g (by simp;omega);obtain⟨c0,cP,cI,ay,af,cq⟩:=cw.say (el:=9) [alN++dP b.next.toNat++ [93]] (n:=1) rfl (by omega) (by simp[iU];omega) (by
  intro t G;simp only[y!]at G;subst G;intro c m;rw[i!,i!]at m;rcases m with(m|m)|m
  ·revert c;decide
  ·exact b5.2.1 c m
  ·revert c;decide) (.inl (by omega)) (by simp[dV];omega)
 simp only[o!,q!]at ay;obtain⟨cl,bA⟩:=keepA cq ck bz;have bc:=ag8 bk.1 b8;have am:=amv af.wd.acc;rw[u]at am;have b6:=je (n:=st.acc.clock.toNat) (by omega);have a5:=λg=>Sa atB (dP st.acc.clock.toNat) g (by simp;omega);have ai:=λg=>Sa (atB++dP st.acc.clock.toNat) [93] g (by simp;omega);obtain⟨c3,B,cJ,az,cx,cr⟩:=af.say (el:=9) [atB++dP st.acc.clock.toNat++ [93]] (n:=1) rfl (by omega) (by simp[iU];omega) (by
  intro t G;simp only[y!]at G;subst G;intro c m;rw[i!,i!]at m;rcases m with(m|m)|m
  ·revert c;decide
  ·exact b6.2.1 c m
  ·revert c;decide) (.inl (by omega)) (by simp[dV];omega)
 simp only[o!,q!]at az;obtain⟨bq,bB⟩:=keepA cr cl bA;obtain⟨an,W⟩:∃an,an=anL 0 (if only=true then roS else rwS) false true false:=⟨_,rfl⟩
 obtain⟨l,ab⟩:∃l,l=B.put h.next (some (O (N tA true) an)):=⟨_,rfl⟩
 have ad:aQ 5 (X h.next 0) (.agg (V.ofList an)) B=D V.undef l:=by rw[ab];exact bq.stN (by rw[W];rfl) rfl
 have ae:Kn l h.next (O (N tA true) an):=by rw[ab];exact bq.put _
 have b2:Ch (λj=>j=h.next) B l:=by rw[ab];exact Ch.put _ _ rfl
 have bj:h0.next.nat<=h.next.nat:=q.chz.next;have bO:¬Ft F (λj=>h5.next.nat<=j.nat/\j.nat<h6.next.nat) pc im h.next:=λf=>by
  rcases f with f|f|f|f
  ·exact a1 (.inl f)
  ·have:=k1.2;omega
  ·exact a1 (.inr (.inr (.inl f)))
  ·exact a1 (.inr (.inr (.inr f)))
 have cy:=cx.alD b2 bB bO bj;have fin:Ep bb h0 Z vw P l pc im ps ir uid w (s++qp (Wn st.acc.mails b.id).length b.valid b.next st.acc.clock) {st with only:=only,vw:=some (dR st.acc b.id)}:=by
  have:=cy.mk';rw[r]at this;have G:s++qp (Wn st.acc.mails b.id).length b.valid b.next st.acc.clock=(((((s++(dV [32] [atZ]++ [13,10]))++(dV [32] [[42],dP (Wn st.acc.mails b.id).length,ag1]++ [13,10]))++(dV [32] [aok]++ [13,10]))++(dV [32] [ad3++dP b.valid.toNat++ [93]]++ [13,10]))++(dV [32] [alN++dP b.next.toNat++ [93]]++ [13,10]))++(dV [32] [atB++dP st.acc.clock.toNat++ [93]]++ [13,10]):=by
   simp only[qp,lineS,l!]
  rw[G];exact this
 rw[apV];cases only with
 |true=>
  have al:=aLV roS B;have M:aQ 5 (X h.next 0) (anV 0 roS false true false) B=D V.undef l:=by rw[W]at ad;exact ad
  simp(disch:=omega)only[vvB,seval,LY,Ph,Pg,Pe,O9,O8,O7,O6,O5,KQ,KP,KO,KN,KL,KJ,KI,KH,Zj,
   <-bl,bi,bg,S4,ix,V4,e5,R1 q5,e6,S7,S8,e9,bf,qo,XQ,au,be,bh,aR,a8,av,aw,a6,a9,a3,ag,ax,a7,ba,a4,ah,ay,R1 af,am,bc,a5,ai,az,al,M]
  exact⟨l,by rw[W]at ae;simp only[aU,cO,vvB,seval,Ei,ae.ldN (n:=5) rfl,dn],fin⟩
 |false=>
  have al:=aLV rwS B;have M:aQ 5 (X h.next 0) (anV 0 rwS false true false) B=D V.undef l:=by rw[W]at ad;exact ad
  simp(disch:=omega)only[vvB,seval,LY,Ph,Pg,Pe,O9,O8,O7,O6,O5,KQ,KP,KO,KN,KL,KJ,KI,KH,Zi,
   <-bl,bi,bg,S4,ix,V4,e5,R1 q5,e6,S7,S8,e9,bf,qo,XQ,au,be,bh,aR,a8,av,aw,a6,a9,a3,ag,ax,a7,ba,a4,ah,ay,R1 af,am,bc,a5,ai,az,al,M]
  exact⟨l,by rw[W]at ae;simp only[aU,cO,vvB,seval,Ei,ae.ldN (n:=5) rfl,dn],fin⟩
end
end Go.Proofs.Im
namespace Go.Im
def msC(x:Int×Int×Ml)(vk vs:V):List V:=iV x.1::iV x.2.1::dM x.2.2 vk vs
def msE:El (Int×Int×Ml):=λP h x cs=>∃vk vs,cs=msC x vk vs/\Rws P (flat fF) 1 h vk x.2.2.keys/\Rws P (flat dY) 2 h vs x.2.2.mem
theorem dD:msE.Stable:=λ⟨vk,vm,e,a,b⟩ c d=>⟨vk,vm,e,a.ch (aK _) c d,b.ch (aK _) c d⟩
def uZ(ms:List Ml)(box:Int)(i:Nat)(x:Int×Int×Int):List (Int×Int×Ml):=
 match ms.find? λm=>decide (m.id=x.2.1) with
 |some m=>if m.mem.any (λy=>decide ((box,x.1)=y)) then [((i:Int)+1,x.1,m)] else []
 |none=> []
def fQ(ms:List Ml)(box:Int):Nat->List (Int×Int×Int)->List (Int×Int×Ml)
 |_,[]=> []
 |i,x::l=>uZ ms box i x++fQ ms box (i+1) l
theorem aeA(ms:List Ml)(box:Int):∀(l m:List (Int×Int×Int)) (i:Nat),fQ ms box i (l++m)=fQ ms box i l++fQ ms box (i+l.length) m
 | [],m,i=>by simp[fQ]
 |x::l,m,i=>by
  simp only[List.cons_append,fQ,C!,l!];rw[aeA ms box l m (i+1),show i+1+l.length=i+(l.length+1) by omega]
theorem MP(ms:List Ml)(box:Int):∀(l:List (Int×Int×Int)) (i:Nat),(fQ ms box i l).length<=l.length
 | [],i=>by simp[fQ]
 |x::l,i=>by
  simp only[fQ,j!,C!];have:=MP ms box l (i+1);have:(uZ ms box i x).length<=1:=by
   unfold uZ;split
   ·split<;>simp
   ·simp
  omega
theorem Kt{α:Type}{f:α->Bool}:∀{l:List α},l.find? f=(match l.findIdx? f with|some k=>l[k]?|none=>none)
 | []=>rfl
 |a::l=>by
  rw[List.find?_cons,List.findIdx?_cons];by_cases h:f a=true
  ·simp[h]
  ·rw[Kt (l:=l)];simp only[h,Bool.false_eq_true,↓reduceIte];cases l.findIdx? f<;>simp
end Go.Im
namespace Go.Proofs.Im
section
variable{h h' g:Hp}{F I J:Pos->Prop}{ps pl ib p pv pc:Pos}{A:Acc}{cb:Cap}{fb uid only:Bool}{v vm vl vw:V}{box had:Int}{m:List Mg}
abbrev zMs:List V:= [(Y U 0),(Y U 0),(Y U 0),(Y U 0),(H []),(Y U 0),.aO,.aO,(Y U 0),(Y U 0)]
theorem bMs(x:Int×Int×Ml)(vk vs:V)(h:Hp):bU zMs [(0,1,iV x.1),(1,1,iV x.2.1),(2,8,.agg (V.ofList (dM x.2.2 vk vs)))] h=D (.agg (V.ofList (msC x vk vs))) h:=(rfl)
theorem aO2(x:Int×Int×Ml)(vk vs:V):eu tMs zMs 1 [(0,10,.agg (V.ofList (msC x vk vs)))]=some (O (N tMs true) (msC x vk vs),λp=>.slice p 0 1 (.kn 1)):=(rfl)
theorem bMb(x y:Int)(h:Hp):bU [(Y U 0),(Y U 0)] [(0,1,iV x),(1,1,iV y)] h=D (.agg (V.ofList (dY (x,y)))) h:=(rfl)
theorem apk{m:Ml}{vk vm:V}{p:Pos}{n:Int}{w:Wr}(k:Kn g p (O w [iV n])):vT [.agg (V.ofList (dM m vk vm)),X p 0] g=D (K (decide (m.id=n))) (g.new (O (N tMl true) (dM m vk vm))):=by
 have e1:=(Kn.new g (O (N tMl true) (dM m vk vm))).ld (q:=0) (x:=iV m.id) rfl;have e2:=(k.add (O (N tMl true) (dM m vk vm))).ld (q:=0) (x:=iV n) rfl;rw[ahy];simp only[vvB,seval,KZ,Ud,Ub,V.bW,e1,e2];simp only[aU,cO,vvB,seval,dn]
theorem ama(p:Pos)(x:V)(g:Hp):dI uz (.func (.func abZ) .nil (.cons (X p 0) .nil)) [x] g=vT [x,X p 0] g:=(rfl)
theorem arv(a:dJ h F ps A pl ib cb fb vm vl I)(hA:A.Small)(vk:VwK h J pv box had m vw)(hm:m.length<=1000){w:Wr}{C:List V}(kc:Kn h pc (O w C))(hC:C[1]?=some (X pv 0)):
  ∃r h',sJ [X pc 0,X ps 0] h=D r h'/\gK h.next.nat msE tMs 10 h' r (fQ A.mails box 0 (m.map mgK))/\Nw h h':=by
 obtain⟨r,h1,e1,o1,c1⟩:=QI a hA;have R:=(o1.rws dB).mono (P':=λj=>h.next.nat<=j.nat/\j.nat<h1.next.nat) dB λj hj q=>⟨q,hj⟩
 have P1:=(kc.nw c1).ld hC;have a7:=((kc.nw c1).bump 0).ld hC;have ar:=vk.ch c1 λ_ _ q=>q;obtain⟨ri,h2,e2,o2,c2⟩:=aF2 ar hm;have au:=ar.ch c2 λ_ _ q=>q;have P2:=((kc.nw c1).nw c2).ld hC;obtain⟨ru,h3,e3,o3,c3⟩:=aeP au hm;have Ri:=(o2.rws (aK _)).nw (aK _) c3;have Ru:=o3.rws (aK _);have L:Nw h1 h3:=c2.trans c3;have n1:=c1.next;have n2:=c2.next;have n3:=c3.next;have hn:=hA.mails;rw[ak7];show aW h! _ (λr h'=>gK h.next.nat msE tMs 10 h' r (fQ A.mails box 0 (m.map mgK))/\Nw h h') _;have cN:∀{k:Out},chk (λh=>aF (X pc 1) h) (X pv 0) k 1 [h1]=k:=uS rfl P1;have li:=Ri.len h3;rw[p!]at li;simp only[vvB,seval,Pm,VH,VG,VF,VE,VD,e1,P1,P2,cN,e2,e3,li];refine Oc.then (dK (σ:=V) (n:=m.length) (pi:=26) (pn:=25) (pc:=27) [8,24,5,7,0] (λv=> [v,ri,r,ru,X pc 0]) (λk v g=>Nw h3 g/\dA h3.next.nat (λj=>h.next.nat<=j.nat/\j.nat<h1.next.nat) msE tMs 10 g v (fQ A.mails box 0 ((m.map mgK).take k)))
  (A:=λfr g=>∃v,fr.get (b! 8)=some v/\Nw h3 g/\dA h3.next.nat (λj=>h.next.nat<=j.nat/\j.nat<h1.next.nat) msE tMs 10 g v (fQ A.mails box 0 (m.map mgK))) (B:=λfr g=>False) (s:=.aO)
  (λfr h _ k e1 e2=>by simp only[vvB,seval,VB,e1,e2]) (λfr h k _ e1=>by simp(disch:=omega)only[vvB,seval,Uf,e1]) (by decide) (by rw[dO];omega) (qK0) (qK0) (by simp only[Fa,vvB,seval,and_self]) ⟨Nw.refl _,by simpa[fQ]using dA.nil _ _ _ _ _ _⟩ ?_ ?_) ?_ ?_
 ·intro k v fr g hk G ae fa hI;obtain⟨f8,E,f5,f7,f0,-⟩:=fa;obtain⟨c,o⟩:=hI;obtain⟨x,hx⟩:∃x,m[k]?=some x:=⟨_,a! hk⟩
  have aM:(m.map (·.id))[k]?=some x.id:=by rw[k!,hx];rfl
  have a0:(m.map (·.uid))[k]?=some x.uid:=by rw[k!,hx];rfl
  have aR:(m.map mgK)[k]?=some (mgK x):=by rw[k!,hx];rfl
  have ag:fQ A.mails box 0 ((m.map mgK).take (k+1))=fQ A.mails box 0 ((m.map mgK).take k)++uZ A.mails box k (mgK x):=by
   rw[Go.Vm.take_snoc aR,aeA,n!,p!,Nat.min_eq_left (J! hk),v!];simp[fQ]
  obtain⟨i1,q1,av,ah,ax,-,-,-,a2,-⟩:=(Ri.nw (aK _) c).elt aM;obtain rfl:av=fH x.id:=ax;have i:=a2 g rfl 0 (iV x.id) rfl;rw[w!]at i;obtain⟨g2,af⟩:∃g2,g2=g.new (O (N fZ true) [iV x.id]):=⟨_,rfl⟩
  have S2:aQ 1 (X g.next 0) (iV x.id) (g.new (O (N fZ true) [(Y U 0)]))=D V.undef g2:=by rw[af];exact XG ⟨rfl,rfl⟩ (by decide)
  have Q:Nw g g2:=by rw[af];exact Nw.new _ _
  have k2:Kn g2 g.next (O (N fZ true) [iV x.id]):=by rw[af];exact Kn.new _ _
  have aj:=c.trans Q;obtain⟨g3,e4,c4⟩:=Tn (R.nw dB (L.trans aj)) dB (λy=>decide (y.id=x.id)) (by omega) (f:=.func (.func abZ) .nil (.cons (X g.next 0) .nil)) (λb cs g _ cg e _=>by
   obtain⟨vk,vm,rfl,-,-⟩:=e;rw[ama,apk (k2.nw cg)];exact⟨_,rfl,Nw.new _ _⟩)
  have d:Nw h3 g3:=aj.trans c4;have W:=Kt (f:=λy:Ml=>decide (y.id=x.id)) (l:=A.mails);have a6:(fQ A.mails box 0 ((m.map mgK).take k)).length<=1000:=by
   have:=MP A.mails box ((m.map mgK).take k) 0;rw[n!,p!]at this;omega
  have ba:=c.next;cases Z:A.mails.findIdx? (λy=>decide (y.id=x.id)) with
  |none=>
   rw[Z]at e4 W;simp only[gy]at e4;have M:uZ A.mails box k (mgK x)= []:=by unfold uZ;show(match A.mails.find? (λy=>decide (y.id=x.id)) with|some m=>_|none=>_)=_;rw[W]
   simp(disch:=omega)only[vvB,seval,zo,zn,zl,E,G,f5,ah,i,S2,e4];refine⟨qK2 G,qK2 ae,v,by simp only[Fa,vvB,seval,f8,E,f5,f7,f0,and_self],d,?_⟩;rw[ag,M,P!];exact o.nw dD (Q.trans c4)
  |some t=>
   rw[Z]at e4 W;simp only[gy]at e4;obtain⟨y,hy⟩:∃y,A.mails[t]?=some y:=by
    cases hq:A.mails[t]? with
    |some y=>exact⟨y,rfl⟩
    |none=>
     rw[A!]at Z;obtain⟨ht,-⟩:=Z;rw[a! ht]at hq;cases hq
   have aa:A.mails.find? (λy=>decide (y.id=x.id))=some y:=by rw[W];exact hy
   have a1:=g! hy;have bb:=hA.each y a1;have a5:=(au.ch c3 λ_ _ q=>q).ch d λ_ _ q=>q;have P3:=((((kc.nw c1).nw L).nw d).bump 0).ld hC;have ai:=(((kc.nw c1).nw L).nw d).ld hC;have eB:=aF4 a5;obtain⟨i2,q2,a8,an,ay,-,aE,-,a3,a4⟩:=(R.nw dB (L.trans d)).elt hy;obtain⟨yk,ys,rfl,rk,rs⟩:=ay;have P:=a3 g3 rfl 5 ys rfl;obtain⟨i3,q3,aw,ao,az,-,aL,-,ap,-⟩:=(Ru.nw (aK _) d).elt a0;obtain rfl:aw=fH x.uid:=az;have u:=ap g3 rfl 0 (iV x.uid) rfl;rw[w!]at u;obtain⟨S,e5,c5⟩:=ahz rs (box,x.uid) (by omega);have ak:∀{k:Out},chk (λh=>aF (X i2 (q2+5)) h) ys k 1 [g3]=k:=uS rs.noF P;have al:∀{k:Out},chk (λh=>aF (X i3 q3) h) (iV x.uid) k 1 [g3]=k:=uS rfl u;have ad:=d.trans c5;have ab:((t:Int)>=0)=True:=eq_true (by omega);by_cases hc:(y.mem.any λz=>decide ((box,x.uid)=z))=true
   ·rw[hc]at e5;have e5:kV [ys,.agg (.cons (iV box) (.cons (iV x.uid) .nil))] g3=D (K true) S:=e5;have M:uZ A.mails box k (mgK x)= [((k:Int)+1,x.uid,y)]:=by
     unfold uZ;show(match A.mails.find? (λy=>decide (y.id=x.id)) with|some m=>_|none=>_)=_;rw[aa];show(if(y.mem.any λz=>decide ((box,x.uid)=z))=true then _ else _)=_;rw[if_pos hc];rfl
    have aq:=a4 (aH 1 S) (c5.get i2 aE λq=>q);have ac:=ap (aH 1 S) (c5.get i3 aL λq=>q) 0 (iV x.uid) rfl;rw[w!]at ac;have og:=o.nw dD ((Q.trans c4).trans c5);have a9:=ad.next;obtain⟨v',g5,e6,o6,c6,n6,-⟩:=og.app1 (bt:=120) (x:=((k:Int)+1,x.uid,y)) (cs:=msC ((k:Int)+1,x.uid,y) yk ys) (P':=λj=>h.next.nat<=j.nat/\j.nat<h1.next.nat) dD (by omega) rfl (λ_ _ q=>q) ⟨yk,ys,rfl,rk.nw (aK _) c5,rs.nw (aK _) c5⟩ (λj _ q e=>by have:=(og.eY e).1;omega) (by omega);have e6:bK tMs 10 120 v (.slice S.next 0 1 (.kn 1)) (S.new (O (N tMs true) (msC ((k:Int)+1,x.uid,y) yk ys)))=D v' g5:=e6;have am:(aH 1 S).put S.next (some (O (N tMs true) (msC ((k:Int)+1,x.uid,y) yk ys)))=S.new (O (N tMs true) (msC ((k:Int)+1,x.uid,y) yk ys)):=rfl;have bM:=λh=>bMs ((k:Int)+1,x.uid,y) yk ys h;simp only[]at bM;simp(disch:=omega)only[vvB,seval,zo,zn,zl,VA,E,G,f5,f7,f8,f0,ah,i,S2,e4,ab,ai,eB,an,P,ak,ao,u,al,e5,aq,ac,bM,aO2,am,e6];refine⟨qK2 G,qK2 ae,v',by simp only[Fa,vvB,seval,E,f5,f7,f0,and_self],?_,?_⟩
    ·exact ad.own c6 λj e=>(og.eY e).1
    ·rw[ag,M];exact o6
   ·have aD:(y.mem.any λz=>decide ((box,x.uid)=z))=false:=Bool.eq_false_iff.2 hc;rw[aD]at e5;have e5:kV [ys,.agg (.cons (iV box) (.cons (iV x.uid) .nil))] g3=D (K false) S:=e5;have M:uZ A.mails box k (mgK x)= []:=by
     unfold uZ;show(match A.mails.find? (λy=>decide (y.id=x.id)) with|some m=>_|none=>_)=_;rw[aa];show(if(y.mem.any λz=>decide ((box,x.uid)=z))=true then _ else _)=_;rw[if_neg hc]
    simp(disch:=omega)only[vvB,seval,zo,zn,zl,E,G,f5,f7,f0,ah,i,S2,e4,ab,ai,eB,an,P,ak,ao,u,al,e5];refine⟨qK2 G,qK2 ae,v,by simp only[Fa,vvB,seval,f8,E,f5,f7,f0,and_self],ad,?_⟩;rw[ag,M,P!];exact o.nw dD ((Q.trans c4).trans c5)
 ·intro v fr g fa hI;obtain⟨f8,-⟩:=fa;obtain⟨c,o⟩:=hI;rw[u! (by simp)]at o;exact⟨v,f8,c,o⟩
 ·rintro fr g ⟨v,f8,c,o⟩;simp only[vvB,seval,Ue,f8];exact aW.ret (r:=v) (qT0) ⟨o.wide dD (by omega) λj hj q=>⟨q.1,λe=>by have:=(o.eY e).1;omega⟩,(c1.trans L).trans c⟩
 ·intro fr g q;exact q.elim
end
end Go.Proofs.Im
namespace Go.Vm
section
variable{h h':Hp}{im:Pos}{α:Type}
theorem Kn.aG7{t:TypeId}{f:Bool}{ds:List (List V)}{rest c:List V}{w k:Nat}(o:Kn h im (O (N t f) (ds.flatten++rest)))(b:∀d∈ds,d.length=w)(i:k<ds.length)(e:c.length=w):
  aQ w (X im (k*w)) (.agg (V.ofList c)) h=D V.undef (h.put im (some (O (N t f) ((ds.set k c).flatten++rest)))):=by
 have hl:=iQ b;have j:(k+1)*w=k*w+w:=H! k w;have m:(k+1)*w<=ds.length*w:=K! _ i;have n:jh (k*w) c (ds.flatten++rest)=some ((ds.set k c).flatten++rest):=by
  rw[EJ (by rw[j!];omega),D! (by omega),U2 k b,e,<-j,List.drop_append_of_le_length (by omega),aeI (k+1) b];rw[List.set_eq_take_append_cons_drop,if_pos i];simp[l!]
 rw[wP o.1 rfl (by show O! (V.ofList c).list.length w=true;rw[V.bW,e,B!])];show(match jh (k*w) (V.ofList c).list (ds.flatten++rest) with|some a=>R.ok V.undef (h.put im (some (O (N t f) a)))|none=>.bad)=_;rw[V.bW,n]
theorem Kn.aHf{wr:Wr}{ds:List (List V)}{rest c:List V}{w k:Nat}(n:Kn h im (O wr (ds.flatten++rest)))(d:∀c∈ds,c.length=w)(a:ds[k]?=some c):bT w (X im (k*w)) h=D (.agg (V.ofList c)) h:=by
 have j:=(c!.1 a).1;have hl:=iQ d;have e:=Kr d a;have b:=d c (g! a);have o:(k+1)*w=k*w+w:=H! k w;have m:(k+1)*w<=ds.length*w:=K! _ j;show dQ h im (λ_ cs=>match gQ w (eP (k*w) cs) with|some l=>R.ok (V.agg (V.ofList l)) h|none=>.bad)=_;rw[dL (wr:=wr) (all:=ds.flatten++rest) (by rw[n.1];rfl),qw (cs:=c) (λf i=>?_) b];rw[r! (by omega),<-e,List.getElem?_take,if_pos i,z!]
theorem ZK(zs:List V):∀n:Nat,(times n zs).length=n*zs.length
 |0=>by show([]:List V).length=_;simp
 |n+1=>by show(zs++times n zs).length=_;rw[j!,ZK zs n,H!];omega
theorem aCj{w n m:Nat}(a:m<n)(h:Hp):eU w (.slice im 0 n (.un w)) (some (Y U (m:Int))) none none h=D (.slice im (m*w) (n - m) (.un w)) h:=by
 cases m with
 |zero=>
  show(match F! n n,F! 0 n,O! w w with
     |true,true,true=>R.ok (V.slice im 0 n (.un w)) h
     |_,_,_=>R.bad)=_
  rw[d! (x! _),d! (S! _),B!,Nat.zero_mul,Nat.sub_zero]
 |succ m=>
  show(match F! n n,F! (m+1) n,O! w w with
     |true,true,true=>(match Nat.blt (m+1) n with
      |true=>fA (0+(m+1)*w) λq=>fA (n - (m+1)) λn=>R.ok (V.slice im q n (.un w)) h
      |false=>D .emp h)
     |_,_,_=>R.bad)=_
  rw[d! (x! _),d! (J! a),B!,show Nat.blt (m+1) n=true by rw[T!];exact a];simp only[dF,v!]
theorem asD{w n m:Nat}(a:m<=n)(h:Hp):eU w (.slice im 0 n (.un w)) none (some (Y U (m:Int))) none h=D (.slice im 0 m (.un w)) h:=by
 show(match F! m n,F! 0 m,O! w w with
     |true,true,true=>R.ok (V.slice im 0 m (.un w)) h
     |_,_,_=>R.bad)=_
 rw[d! a,d! (S! _),B!]
theorem aqw{t:TypeId}{f:Bool}{ds:List (List V)}{rest zs:List V}{w m:Nat}(k:Kn h im (O (N t f) (ds.flatten++rest)))(e:∀d∈ds,d.length=w)(n:m<ds.length)(i:zs.length=w):
  SC zs (.slice im (m*w) (ds.length - m) (.un w)) h=D V.undef (h.put im (some (O (N t f) ((ds.take m).flatten++(times (ds.length - m) zs++rest))))):=by
 have hl:=iQ e;have a:m*w+(ds.length - m)*w=ds.length*w:=by rw[<-Nat.add_mul];congr 1;omega
 have c:jh (m*w) (times (ds.length - m) zs) (ds.flatten++rest)=some ((ds.take m).flatten++(times (ds.length - m) zs++rest)):=by
  rw[EJ (by rw[ZK,i,j!];omega),ZK,i,a,D! (by omega),U2 m e];rw[<-hl,List.drop_left,l!]
 obtain⟨q,j⟩:∃q,ds.length - m=q+1:=⟨ds.length - m - 1,by omega⟩
 rw[j]at c⊢;show dQ h im (λwr cs=>(match wr with
   |N t f=>(match jh (m*w) (times (q+1) zs) cs with|some b=>R.ok V.undef (h.put im (some (O (N t f) b)))|none=>.bad)
   | .ro=>.bad))=_
 rw[dL (wr:=N t f) (all:=ds.flatten++rest) (by rw[k.1];rfl)];simp only[c]
def vO(el:TypeId)(w:Nat)(P:Pos->Prop)(E:El α)(h:Hp)(v:V)(l:List α):Prop:=
 ∃a,All2 (E P h) l a/\(∀c∈a,c.length=w)/\((l= []/\v=.aO)\/∃i f rest,v=.slice i 0 l.length (.un w)/\Kn h i (O (N el f) (a.flatten++rest)))
theorem dA.aLq{b:Nat}{P:Pos->Prop}{E:El α}{el:TypeId}{w:Nat}{v:V}{l:List α}(r:dA b P E el w h v l):vO el w P E h v l:=by
 obtain⟨c,a,j,s⟩:=r;refine⟨c,a,j,?_⟩;rcases s.is with⟨h0,e⟩|⟨i,e,hb,hi,f,d⟩
 ·exact .inl ⟨G!.1 h0,e⟩
 ·exact .inr ⟨i,f,[],e,by simpa using d,hi⟩
theorem vO.rws{el:TypeId}{w:Nat}{P:Pos->Prop}{E:El α}{v:V}{l:List α}(r:vO el w P E h v l)(d:E.Stable):Rws (λj=>P j\/bC v=some j) E w h v l:=by
 obtain⟨b,a,c,r⟩:=r;have a':All2 (E (λj=>P j\/bC v=some j) h) l b:=a.mono λ_ _ e=>d e (Nw.refl h) λj _ q=>⟨.inl q,λq=>q⟩
 rcases r with⟨rfl,rfl⟩|⟨i,f,rest,rfl,k⟩
 ·cases a;exact Rws.aO _ _ _ _
 ·refine⟨b,a',c,⟨by rw[iQ c,a.len],.inr ⟨i,0,_,N el f,b.flatten++rest,rfl,k.2,by rw[k.1];rfl,λq n=>?_⟩⟩,λ_ _ _ _ e=>(by cases e;rfl),λj m=>.inr m⟩;rw[v!,r!];rw[iQ c,a.len];exact n
theorem vO.ch{el:TypeId}{w:Nat}{P P' S:Pos->Prop}{E:El α}{v:V}{l:List α}(r:vO el w P E h v l)(d:E.Stable)(c:Ch S h h')(n:∀j,bC v=some j->¬S j)(m:∀j:Pos,j.nat<h.next.nat->P j->P' j/\¬S j):vO el w P' E h' v l:=by
 obtain⟨b,a,o,r⟩:=r;exact⟨b,a.mono λ_ _ e=>d e c m,o,r.imp id λ⟨i,f,rest,e,k⟩=>⟨i,f,rest,e,k.ch c (n i (by rw[e];rfl))⟩⟩
theorem vO.nw{el:TypeId}{w:Nat}{P:Pos->Prop}{E:El α}{v:V}{l:List α}(r:vO el w P E h v l)(a:E.Stable)(c:Nw h h'):vO el w P E h' v l:=r.ch a c (λ_ _ q=>q) λ_ _ q=>⟨q,λq=>q⟩
theorem yC{p:α->Bool}{l:List α}{k:Nat}{x:α}(a:l[k]?=some x):(l.take (k+1)).filter p=(l.take k).filter p++(if p x=true then [x] else []):=by
 rw[take_snoc a,List.filter_append];congr 1;by_cases h:p x=true<;>simp[h]
end
end Go.Vm
namespace Go.Proofs.Im
section
variable{h h' g:Hp}{P:Pos->Prop}{p im:Pos}{v f:V}{l:List (Int×Int×Ml)}
theorem aoc(r:vO tMs 10 P msE h v l)(hP:∀j,P j->bC v≠some j)(p:Int×Int×Ml->Bool)(hn:l.length<=1000)
  (ap:∀a cs g,a∈l->Ch (λj=>bC v=some j) h g->(∃Q,msE Q g a cs)->∃g',dI iM f [.agg (V.ofList cs)] g=D (K (p a)) g'/\Nw g g')
  (aq:∀a cs g,a∈l->Ch (λj=>bC v=some j) h g->(∃Q,msE Q g a cs)->∃g',dI kY f [.agg (V.ofList cs)] g=D (K (p a)) g'/\Nw g g'):
  ∃Z h',jc [v,f] h=D Z h'/\vO tMs 10 P msE h' Z (l.filter λa=>!p a)/\Ch (λj=>bC v=some j) h h'/\∀j,bC Z=some j->bC v=some j:=by
 obtain⟨h1,e1,c1⟩:=Jp (r.rws dD) dD p (by omega) (f:=f) (λa cs g ha W e _=>ap a cs g ha W.ch ⟨_,e⟩);cases S:l.findIdx? p with
 |none=>
  rw[S]at e1;simp only[gy]at e1;have aj:l.filter (λa=>!p a)=l:=L!.2 λa ha=>by
   have:=List.findIdx?_eq_none_iff.1 S a ha;simp[this]
  refine⟨v,h1,?_,by rw[aj];exact r.nw dD c1,c1.ch,λ_ q=>q⟩;rw[lS];simp(disch:=omega)only[vvB,seval,iF,kD,kC,kz,qI,e1];simp only[aU,cO,vvB,seval,dn]
 |some t=>
  rw[S]at e1;simp only[gy]at e1;obtain⟨ht,av,au⟩:=A!.1 S;have al:(l.take t).filter (λa=>!p a)=l.take t:=L!.2 λa ha=>by
   obtain⟨j,hj,e⟩:=List.mem_iff_getElem.1 ha;rw[n!]at hj;have:=au j (by omega);rw[List.getElem_take]at e;rw[e]at this;simpa using this
  obtain⟨ah,a,hw,rr⟩:=r;rcases rr with⟨rfl,-⟩|⟨i,ff,rest,rfl,km⟩
  ·simp at ht
  have ao:=a.len;have ln:∀g,aZ 2 (.slice i 0 l.length (.un 10)) g=D (Y U (l.length:Int)) g:=λg=>rfl;have ax:l[t]?=some l[t]:=a! ht;have m1:=km.nw c1;have az:∀j,bC (V.slice i 0 l.length (.un 10))=some j->j=i:=λj e=>by cases e;rfl
  have ai:∀j,P j->j≠i:=λj q e=>hP j q (by rw[e];rfl);rw[lS]
  suffices T:aW h! [.tmp 4] (λZ h'=>vO tMs 10 P msE h' Z (l.filter λa=>!p a)/\Ch (λj=>bC (V.slice i 0 l.length (.un 10))=some j) h h'/\∀j,bC Z=some j->bC (V.slice i 0 l.length (.un 10))=some j)
    (iF (T.set (some f) (b! 1) (T.set (some (.slice i 0 l.length (.un 10))) (b! 0) T.nil)) h) by
   obtain⟨Z,h',e,q⟩:=T;exact⟨Z,h',e,q⟩
  simp(disch:=omega)only[vvB,seval,iF,kD,kC,kz,qH,e1];refine Oc.then (dW (n:=l.length - (t+1)) (λm fr g=>∃(j:Nat) (ds:List (List V)),fr.get (b! 0)=some (.slice i 0 l.length (.un 10))/\fr.get (b! 1)=some f/\fr.get (b! 5)=some (Y U ((((l.take j).filter λa=>!p a).length:Nat):Int))/\fr.get (b! 6)=some (Y U (j:Int))/\
    j+m=l.length/\((l.take j).filter λa=>!p a).length<j/\Kn g i (O (N tMs ff) (ds.flatten++rest))/\(∀d∈ds,d.length=10)/\ds.length=l.length/\
    All2 (msE P g) ((l.take j).filter λa=>!p a) (ds.take ((l.take j).filter λa=>!p a).length)/\All2 (msE P g) (l.drop j) (ds.drop j)/\Ch (λq=>q=i) h g)
   (A:=λfr g=>∃ds:List (List V),fr.get (b! 0)=some (.slice i 0 l.length (.un 10))/\fr.get (b! 5)=some (Y U (((l.filter λa=>!p a).length:Nat):Int))/\(l.filter λa=>!p a).length<l.length/\Kn g i (O (N tMs ff) (ds.flatten++rest))/\(∀d∈ds,d.length=10)/\ds.length=l.length/\
    All2 (msE P g) (l.filter λa=>!p a) (ds.take (l.filter λa=>!p a).length)/\Ch (λq=>q=i) h g) (B:=λ_ _=>False) (by rw[dO];omega) ?_ ?_) ?_ ?_
  ·have aa:(l.take (t+1)).filter (λa=>!p a)=l.take t:=by
    rw[yC ax,al];simp[av]
   have y:(l.take t).length=t:=by rw[n!];omega
   have a1:All2 (msE P h1) l ah:=a.mono λ_ _ e=>dD e c1 λj _ q=>⟨q,λq=>q⟩
   exact⟨t+1,ah,qK0,qK0,by simp only[vvB,seval];rw[aa,y],qK1,by omega,by rw[aa,y];omega,m1,hw,ao,by rw[aa,y];exact a1.take t,a1.drop (t+1),c1.ch⟩
  ·rintro m fr g ⟨j,ds,f0,f1,M,f6,hj,ad,kg,o,I,x1,x2,W⟩;by_cases hz:m=0
   ·have ar:j=l.length:=by omega
    subst ar;rw[t!]at M ad x1;simp(disch:=omega)only[vvB,seval,iL,iK,f0,f6,ln];exact⟨rfl,ds,qK2 f0,qK2 M,ad,kg,o,I,x1,W⟩
   ·have C:j<l.length:=by omega
    obtain⟨x,hx⟩:∃x,l[j]?=some x:=⟨_,a! C⟩
    obtain⟨c,hc⟩:∃c,ds[j]?=some c:=⟨_,a! (by omega)⟩
    have ex:msE P g x c:=by
     obtain⟨c',ak,e⟩:=x2.get (k:=0) (x:=x) (by rw[z!,w!];exact hx);rw[z!,w!,hc]at ak;cases ak;exact e
    have b:=o c (g! hc);have N1:=kg.aHf o hc;have I1:=λg=>lG (sz:=10) (i:=i) (c:=.un 10) C g;obtain⟨E,u⟩:∃E,E=g.new (O (N tMs true) c):=⟨_,rfl⟩
    have S2:aQ 10 (X g.next 0) (.agg (V.ofList c)) (g.new (O (N tMs true) zMs))=D V.undef E:=by
     rw[u];have:=ig (h:=g) (t:=tMs) (f:=true) (z:=zMs) (l:=V.ofList c) (n:=10) (V.dG _) (by rw[V.bW];exact b) rfl;rw[V.bW]at this;exact this
    have L:Nw g E:=by rw[u];exact Nw.new _ _
    have k2:Kn E g.next (O (N tMs true) c):=by rw[u];exact Kn.new _ _
    have an:msE P E x c:=dD ex L λj _ q=>⟨q,λq=>q⟩
    obtain⟨g3,e3,c3⟩:=aq x c E (g! hx) ((W.nw L).mono λj _ e=>by rw[e];rfl) ⟨_,an⟩;have N2:=k2.ldN b;have N3:=(k2.nw c3).ldN b;have ae:=(kg.nw L).nw c3;have af:∀{a cs},msE P g a cs->msE P g3 a cs:=λe=>dD e (L.trans c3) λj _ q=>⟨q,λq=>q⟩
    have ay:l.drop j=x::l.drop (j+1):=by rw[e! C];rw[a! C]at hx;cases hx;rfl
    have am:All2 (msE P g) (l.drop (j+1)) (ds.drop (j+1)):=by
     have:=x2.drop 1;rwa[Q!,Q!]at this
    cases hp:p x with
    |false=>
     rw[hp]at e3;obtain⟨s,J⟩:∃s,s=((l.take j).filter λa=>!p a).length:=⟨_,rfl⟩
     rw[<-J]at M ad x1;have I2:=λg=>lG (sz:=10) (i:=i) (c:=.un 10) (show s<l.length by omega) g;obtain⟨g4,ac⟩:∃g4,g4=g3.put i (some (O (N tMs ff) ((ds.set s c).flatten++rest))):=⟨_,rfl⟩
     have S4:aQ 10 (X i (s*10)) (.agg (V.ofList c)) g3=D V.undef g4:=by rw[ac];exact ae.aG7 o (by omega) b
     have c4:Ch (λq=>q=i) g3 g4:=by rw[ac];exact Ch.put _ _ rfl
     have ag:∀{a cs},msE P g a cs->msE P g4 a cs:=λe=>dD (af e) c4 λj _ q=>⟨q,ai j q⟩
     simp(disch:=omega)only[vvB,seval,iL,iK,jZ,jY,qG,pX,ku,f0,f1,M,f6,ln,I1,N1,S2,N2,e3,N3,I2,S4];have G:(l.take (j+1)).filter (λa=>!p a)=(l.take j).filter (λa=>!p a)++ [x]:=by rw[yC hx];simp[hp]
     have ab:((l.take (j+1)).filter λa=>!p a).length=s+1:=by rw[G,j!,<-J];rfl
     refine⟨m - 1,by omega,j+1,ds.set s c,qK2 f0,qK2 f1,by simp only[vvB,seval];rw[ab];rfl,qK1,by omega,by rw[ab];omega,by rw[ac];exact ae.put _,?_,by rw[List.length_set];exact I,?_,?_,?_⟩
     ·intro d hd;rcases List.mem_or_eq_of_mem_set hd with q|q
      ·exact o d q
      ·rw[q];exact b
     ·have aw:(ds.set s c).take (s+1)=ds.take s++ [c]:=by
       rw[M!,List.getElem?_set_self (by omega),List.take_set_of_le (x! _)];rfl
      rw[ab,G,aw];exact(x1.mono λ_ _ e=>ag e).append (.cons (ag ex) .nil)
     ·rw[List.drop_set_of_lt (by omega)];exact am.mono λ_ _ e=>ag e
     ·exact((W.nw L).nw c3).trans c4 λ_ _ q=>q
    |true=>
     rw[hp]at e3;simp(disch:=omega)only[vvB,seval,iL,iK,jZ,jY,ku,f0,f1,f6,ln,I1,N1,S2,N2,e3];have G:(l.take (j+1)).filter (λa=>!p a)=(l.take j).filter (λa=>!p a):=by rw[yC hx];simp[hp]
     exact⟨m - 1,by omega,j+1,ds,qK2 f0,qK2 f1,by simp only[vvB,seval,M];rw[G],qK1,by omega,by rw[G];omega,ae,o,I,by rw[G];exact x1.mono λ_ _ e=>af e,am.mono λ_ _ e=>af e,(W.nw L).nw c3⟩
  ·rintro fr g ⟨ds,f0,M,y,kg,o,I,x1,W⟩;obtain⟨s,J⟩:∃s,s=(l.filter λa=>!p a).length:=⟨_,rfl⟩
   rw[<-J]at M y x1;have s1:=aCj (im:=i) (w:=10) y g;have z1:=aqw (zs:=zMs) (m:=s) kg o (by omega) rfl;rw[I]at z1;obtain⟨E,u⟩:∃E,E=g.put i (some (O (N tMs ff) ((ds.take s).flatten++(times (l.length - s) zMs++rest)))):=⟨_,rfl⟩
   rw[<-u]at z1;have L:Ch (λq=>q=i) g E:=by rw[u];exact Ch.put _ _ rfl
   have k2:Kn E i (O (N tMs ff) ((ds.take s).flatten++(times (l.length - s) zMs++rest))):=by rw[u];exact kg.put _
   have s2:=asD (im:=i) (w:=10) (J! y) E;simp only[vvB,seval,pW,pV,f0,M,s1,z1,s2];refine aW.ret (qT0) ⟨⟨ds.take s,x1.mono λ_ _ e=>dD e L λj _ q=>⟨q,ai j q⟩,λc hc=>o c (List.mem_of_mem_take hc),.inr ⟨i,ff,_,by rw[<-J],k2⟩⟩,(W.trans L λ_ _ q=>q).mono λj _ e=>by rw[e];rfl,λj e=>by cases e;rfl⟩
  ·intro fr g q;exact q.elim
end
end Go.Proofs.Im
namespace Go.Im
abbrev wY:List Nat:= [36,100,101,108,101,116,101,100]
structure DGood (A:Acc) (y:Ml):Prop where
 small:A.Small
 logged:A.Logged
 inn:y.In A
 ents:A.ents.length<=8000
 clock:A.clock<900000
 oct:0<=A.octets/\A.octets<1000000000
 text:y.text.length<1000000000
inductive Ds:Acc->List Ml->Acc->Prop
 |nil (A:Acc):Ds A [] A
 |cons {A B:Acc} {x y:Ml} {l:List Ml} {t:Nat}:A.mails[t]?=some y->y.id=x.id->A.mails.findIdx? (λz=>decide (z.id=y.id))=some t->DGood A y->Ds (akj A t y) l B->Ds A (x::l) B
end Go.Im
