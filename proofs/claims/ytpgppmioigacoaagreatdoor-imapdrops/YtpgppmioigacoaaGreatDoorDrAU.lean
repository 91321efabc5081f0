/- Lemmas that the claim's last text uses. No conditions. -/
import Derived.Test.YtpgppmioigacoaaGreatDoorDrAR
import Derived.Test.YtpgppmioigacoaaGreatDoorDrAO
import Derived.Test.YtpgppmioigacoaaGreatDoorDrAT
import Derived.Test.YtpgppmioigacoaaGreatDoorDrAG
set_option linter.all false
set_option maxRecDepth 100000
open Nat renaming reduceEqDiff→a!,add_zero→z!,le_trans→D!,ble_eq_true_of_le→E!,le_refl→F!,min_eq_left→P!,sub_self→S!,ble→T!
open Go.Vm.Pos renaming of→b!
open List renaming getElem?_eq_getElem→c!,getElem?_set_ne→d!,getElem?_eq_some_iff→e!,range→g!,getElem?_map→h!,replicate→i!,mem_filter→j!,length_map→k!,getElem?_range→n!,length→o!,length_take→q!,length_cons→r!,filter_cons→t!,getElem?_set_self→u!,length_filter_le→v!,map_cons→x!,append_assoc→y!,getLast?_eq_getElem?→B!,map_map→C!,filter_sublist→G!,length_append→H!,filter_congr→J!,ext_getElem?→K!,filter_map→M!,append_nil→N!,map_set→R!
open Go.Vm.Out renaming ret→l!,nor→w!
open Go.Proofs.Tryz renaming prog→p!,underlying22→I!
open Int renaming reduceEq→A!,natCast_zero→O!
open Go.Vm.V renaming int→Y,ptr→X,bool→K,str→H
open Go.IntKind renaming i64→U
open Go.Vm.Ob renaming cells→O
open Go.Vm.Wr renaming rw→N
open Go.Vm.R renaming ok→D
noncomputable section
open Go Go.Vm Go.Ln Go.Proofs Go.Im Go.Proofs.Im Go.ChangeShapes Go.WideShapes Go.ChangeAt Go.RowKit
namespace Go.Im
def Nj(uid:Bool)(x:Int×Int×Ml):Int:=if uid=true then x.2.1 else x.1
def inM(l:List (Int×Int))(n:Int):Bool:=l.any λr=>decide (n>=r.1)&&decide (n<=r.2)
def ahn(s:List Nat)(a:Int):Option (List (Int×Int)):=
 if 1<=a/\a<=20 then(if s= [49] then some [(1,1)] else if s= [49,58,42] then some [(1,a)] else if a<=9/\s= [48+a.toNat] then some [(a,a)] else none) else none
end Go.Im
namespace Go.Proofs.Im
section
variable{h h' g:Hp}{P:Pos->Prop}{p ir:Pos}{uid only:Bool}{v vk vs:V}{L:List V}{s:List Nat}{n:Int}
theorem at7{wr:Wr}{x:Int×Int×Ml}(k:Kn g ir (O wr L))(c:L[4]?=some (.bool uid)):
  KI [X ir 0,.agg (V.ofList (msC x vk vs))] g=D (iV (Nj uid x)) (g.new (O (N tMs true) (msC x vk vs))):=by
 have K:=Kn.new g (O (N tMs true) (msC x vk vs));have b:=K.ld (q:=0) (x:=iV x.1) rfl;have e1:=K.ld (q:=1) (x:=iV x.2.1) rfl;have a:=(k.add (O (N tMs true) (msC x vk vs))).ld c;rw[anh];cases uid
 ·simp only[vvB,a!,reduceCtorEq,↓reduceIte,Ky,Ny,Nv,abC,V.dD,b,a];simp only[aU,bW,vvB,a!,reduceCtorEq,↓reduceIte,bZ];rfl
 ·simp only[vvB,a!,reduceCtorEq,↓reduceIte,Ky,Ny,Nv,abD,V.dD,e1,a];simp only[aU,bW,vvB,a!,reduceCtorEq,↓reduceIte,bZ];rfl
theorem aDf{x:Int×Int}{wr:Wr}(k:Kn g p (O wr [iV n])):SI [.agg (V.ofList (fD x)),X p 0] g=D (.bool (decide (n>=x.1)&&decide (n<=x.2))) (g.new (O (N ab8 true) (fD x))):=by
 have K:=Kn.new g (O (N ab8 true) (fD x));have a:=K.ld (q:=0) (x:=iV x.1) rfl;have e1:=K.ld (q:=1) (x:=iV x.2) rfl;have e2:=(k.add (O (N ab8 true) (fD x))).ld (q:=0) (x:=iV n) rfl;rw[aut];by_cases b:n>=x.1
 ·simp only[vvB,a!,reduceCtorEq,↓reduceIte,ZF,Y1,YZ,V.dD,a,e1,e2,b,decide_true,Bool.true_and];simp only[aU,bW,vvB,a!,reduceCtorEq,↓reduceIte,bZ]
 ·simp only[vvB,a!,reduceCtorEq,↓reduceIte,ZF,Y1,YZ,V.dD,a,e1,e2,b,decide_false,Bool.false_and];simp only[aU,bW,vvB,a!,reduceCtorEq,↓reduceIte,bZ]
theorem azO(p:Pos)(x:V)(g:Hp):dK qH (.func (.func auI) .nil (.cons (X p 0) .nil)) [x] g=SI [x,X p 0] g:=(rfl)
theorem aHI{r:List (Int×Int)}(R:Rws P (flat fD) 2 h v r)(m:r.length<=1000):∃h',ae4 [v,iV n] h=D (.bool (inM r n)) h'/\Nw h h':=by
 obtain⟨l,a,c,k⟩:=mkW h (O (N iW true) [iV n]);obtain⟨j,e2,d⟩:=aag (R.nw (aK _) c) (aK _) (λx=>decide (n>=x.1)&&decide (n<=x.2)) (by omega) (f:=.func (.func auI) .nil (.cons (X h.next 0) .nil)) (λb cs g _ i e _=>by
  obtain rfl:cs=fD b:=e;rw[azO,aDf (k.nw i)];exact⟨_,rfl,Nw.new _ _⟩)
 rw[ayR];refine⟨j,?_,c.trans d⟩;simp only[vvB,a!,reduceCtorEq,↓reduceIte,amW,an9,an8,<-a,e2];simp only[aU,bW,vvB,a!,reduceCtorEq,↓reduceIte,bZ];rfl
theorem an6{M Q S:Wr}{r:List (Int×Int)}{m e:Pos}{x:Int×Int×Ml}(R:Rws P (flat fD) 2 g v r)(I:r.length<=1000)(l:Kn g e (O M [v]))(kp:Kn g m (O Q [X ir 0]))(k:Kn g ir (O S L))(G:L[4]?=some (.bool uid)):
  ∃i,Ar [.agg (V.ofList (msC x vk vs)),X e 0,X m 0] g=D (.bool (!inM r (Nj uid x))) i/\Nw g i:=by
 obtain⟨j,c,b,J⟩:=mkW g (O (N tMs true) (msC x vk vs));have o:=J.ldN (n:=10) rfl;have t:=(kp.nw b).ld (q:=0) (x:=X ir 0) rfl;have f:=at7 (vk:=vk) (vs:=vs) (x:=x) (k.nw b) G;obtain⟨W,d,y,-⟩:=mkW j (O (N tMs true) (msC x vk vs));rw[<-d]at f;have a:=b.trans y;have w:=(l.nw a).ld (q:=0) (x:=v) rfl;have u:=(l.nw b).ld (q:=0) (x:=v) rfl;obtain⟨E,C,z⟩:=aHI (n:=Nj uid x) (R.nw (aK _) a) I;have B:∀{k:Out},chk (λh=>aF (X e 0) h) v k 1 [j]=k:=wG R.noF u;refine⟨E,?_,a.trans z⟩;rw[ata];simp only[vvB,a!,reduceCtorEq,↓reduceIte,adX,agx,agw,V.dD,<-c,o,t,f,w,B,C];simp only[aU,bW,vvB,a!,reduceCtorEq,↓reduceIte,bZ]
theorem azQ(p q:Pos)(x:V)(g:Hp):dK nY (.func (.func ahj) .nil (.cons (X p 0) (.cons (X q 0) .nil))) [x] g=Ar [x,X p 0,X q 0] g:=(rfl)
theorem azP(p q:Pos)(x:V)(g:Hp):dK uf (.func (.func ahj) .nil (.cons (X p 0) (.cons (X q 0) .nil))) [x] g=Ar [x,X p 0,X q 0] g:=(rfl)
theorem aAL{a:Int}{r:List (Int×Int)}(e:ahn s a=some r):∃x,r= [x]/\aeg [H s,iV a] h=D (.tuple (.cons (.slice h.next 0 1 (.kn 1)) (.cons (iV 0) .nil))) (h.new (O (N ab8 false) (fD x))):=by
 unfold ahn at e;split at e
 ·rename_i f;split at e
  ·rename_i c;cases e;refine⟨(1,1),rfl,?_⟩;have b:Ik.OQ [H s,iV a]=some (Ik.rdV aH 1 1):=by
    show(if 1<=a/\a<=20 then _ else _)=_;rw[if_pos f,if_pos c];rfl
   show(match Ik.OQ [H s,iV a] with|some r=>YG aH [] r.2 r.1 [] h|none=>_)=_;rw[b];rfl
  ·split at e
   ·rename_i c d;cases e;refine⟨(1,a),rfl,?_⟩;have b:Ik.OQ [H s,iV a]=some (Ik.rdV aH 1 a):=by
     show(if 1<=a/\a<=20 then _ else _)=_;rw[if_pos f,if_neg c,if_pos d];rfl
    show(match Ik.OQ [H s,iV a] with|some r=>YG aH [] r.2 r.1 [] h|none=>_)=_;rw[b];rfl
   ·split at e
    ·rename_i c d i;cases e;refine⟨(a,a),rfl,?_⟩;have b:Ik.OQ [H s,iV a]=some (Ik.rdV aH a a):=by
      show(if 1<=a/\a<=20 then _ else _)=_;rw[if_pos f,if_neg c,if_neg d,if_pos i];rfl
     show(match Ik.OQ [H s,iV a] with|some r=>YG aH [] r.2 r.1 [] h|none=>_)=_;rw[b];rfl
    ·cases e
 ·cases e
theorem aHJ(h:Hp)(x:Int×Int):Rws (λj=>j=h.next) (flat fD) 2 (h.new (O (N ab8 false) (fD x))) (.slice h.next 0 1 (.kn 1)) [x]:=by
 have k:=Kn.new h (O (N ab8 false) (fD x));refine⟨[fD x],.cons rfl .nil,λc a=>?_,⟨rfl,.inr ⟨h.next,0,.kn 1,N ab8 false,fD x,rfl,k.2,by rw[k.1];rfl,λq d=>?_⟩⟩,λ_ _ _ _ e=>?_,λj b=>?_⟩
 ·simp at a;subst a;rfl
 ·simp at d⊢
 ·cases e;exact F! _
 ·cases b;rfl
end
end Go.Proofs.Im
namespace Go.Im
def yh(uid:Bool)(l:List (Int×Int×Int)):Int:=if uid=true then(match l.getLast? with|some x=>x.1|none=>0) else(l.length:Int)
end Go.Im
namespace Go.Proofs.Im
section
variable{h h' g h0:Hp}{P F I J Z:Pos->Prop}{ps pl ib pv ir pc im:Pos}{cb:Cap}{fb uid only:Bool}{vm vl vv vw vk:V}{m:List Mg}{st:Sn}{L:List V}{s tx:List Nat}{w:Wds}{ks:Int×Int×List (Int×Int×Int)}{bb:Nat}{kk:Int}{r:List (Int×Int)}
theorem Rq.set(q:Rq bb h0 Z h pc im ps ir uid w s st L vw P F J pl ib cb fb vm vl vv I)(hv:st.vw=some ks)(hA:st.acc.Small)(hk:ks.2.2.length<=1000)(an:kk≠3)(d:ahn tx (yh uid ks.2.2)=some r):
  ∃C h',aac [X ir 0,.agg (.cons (Y U kk) (.cons (H tx) (.cons vk .nil)))] h=D (.tuple (.cons C (.cons (K true) .nil))) h'/\
   FU tMs 10 (λj=>h.next.nat<=j.nat/\bH C≠some j) msE h' C ((fH st.acc.aP ks.1 0 ks.2.2).filter λx=>inM r (Nj uid x))/\Nw h h'/\∀j,bH C=some j->h.next.nat<=j.nat/\j.nat<h'.next.nat:=by
 have ac:=q.wd.view;rw[hv]at ac;obtain⟨pv,vwr,m,rfl,aw,hm⟩:=ac;have ao:m.length=ks.2.2.length:=by have:=congrArg o! hm;simpa using this
 have ap:m.map (·.uid)=ks.2.2.map (·.1):=by rw[<-hm,C!];rfl
 obtain⟨h1,ak,c1,k1⟩:=mkW h (O (N tPr true) [X ir 0]);have B1:fO tPr (X ir 0) h=D (X h.next 0) h1:=by rw[ak];rfl
 obtain⟨h2,al,S,k2⟩:=mkW h1 (O (N apB true) [Y U kk,H tx,vk]);have B2:fO apB (.agg (.cons (Y U kk) (.cons (H tx) (.cons vk .nil)))) h1=D (X h1.next 0) h2:=by rw[al];rfl
 have n:=c1.trans S;have q2:=q.nw n;have W0:=k2.ld (q:=0) (x:=Y U kk) rfl;have eK:(kk=3)=False:=eq_false an;have K0:=(k1.nw S).ld (q:=0) (x:=X ir 0) rfl;have R0:=q2.kr.ld q2.l0;have C1:=q2.wd.con.ld (q:=1) (x:=X pv 0) rfl;obtain⟨ru,k,e3,o3,c3⟩:=acX (aw.ch n λ_ _ q=>q) (by omega);have o:=n.trans c3;have q3:=q.nw o;have Ru:=o3.rws (aK _);have lu:=Ru.len k;rw[k!,ao]at lu;have K3:=(k1.nw (S.trans c3)).ld (q:=0) (x:=X ir 0) rfl;have W3:=(k2.nw c3).ld (q:=1) (x:=H tx) rfl;have R4:=q3.kr.ld q3.l4;have aa:1<=yh uid ks.2.2:=by
  unfold ahn at d;split at d
  ·rename_i hs;exact hs.1
  ·cases d
 obtain⟨x,rfl,e4⟩:=aAL (h:=k) d;obtain⟨B,v,c4,-⟩:=mkW k (O (N ab8 false) (fD x));rw[<-v]at e4;have RG:Rws (λj=>j=k.next) (flat fD) 2 B (.slice k.next 0 1 (.kn 1)) [x]:=by rw[v];exact aHJ _ _
 obtain⟨h5,am,c5,k5⟩:=mkW B (O (N tRs true) [.slice k.next 0 1 (.kn 1)]);have S5:aT 1 (X B.next 0) (.slice k.next 0 1 (.kn 1)) (B.new (O (N tRs true) [.aQ]))=D V.undef h5:=by rw[am];exact alI ⟨rfl,rfl⟩ (by decide)
 have u:=c4.trans c5;have p:=o.trans u;have q5:=q.nw p;have ad:=k1.nw ((S.trans c3).trans u);have K5:=ad.ld (q:=0) (x:=X ir 0) rfl;have E:=q5.kr.ld q5.l0;have G:=q5.kr.ld q5.l1;obtain⟨rm,h6,e6,o6,W⟩:=q5.messages hv hA hk;have n1:=c1.next;have aL:=o.next;have n2:=S.next;have aR:=u.next;have n4:=c4.next;have n5:=c5.next;have n6:=W.next;have aM:=p.next;have M:=p.trans W;have q6:=q.nw M;have af:=k5.nw W;have ae:=ad.nw W;have ay:k.next.nat<B.next.nat:=by rw[v];exact(Kn.new _ _).2
 have c:∀j,bH rm=some j->h5.next.nat<=j.nat:=λj e=>(o6.eu e).1;have hR:∀g,Ch (λj=>bH rm=some j) h6 g->Rws (λj=>j=k.next) (flat fD) 2 g (.slice k.next 0 1 (.kn 1)) [x]:=λg i=>
  (RG.nw (aK _) (c5.trans W)).ch (aK _) i λj hj e=>⟨e,λq=>by have:=c _ q;subst e;omega⟩
 have aE:=k5.2;have aD:=k1.2;have az:=q.kr.2;obtain⟨C,h7,e7,o7,c7,i7⟩:=Ut (f:=.func (.func ahj) .nil (.cons (X B.next 0) (.cons (X h.next 0) .nil))) o6.aH1 (λj pj=>pj.2) (λx'=>!inM [x] (Nj uid x')) (D! (KU _ _ _ _) hk)
  (λa cs g ha i ⟨Q,e⟩=>by
   obtain⟨av,ax,rfl,-,-⟩:=e;rw[azQ];exact an6 (hR g i) (by simp) (af.ch i λe=>by have:=c _ e;omega) (ae.ch i λe=>by have:=c _ e;omega) (q6.kr.ch i λe=>by have:=c _ e;omega) q.l4)
  (λa cs g ha i ⟨Q,e⟩=>by
   obtain⟨av,ax,rfl,-,-⟩:=e;rw[azP];exact an6 (hR g i) (by simp) (af.ch i λe=>by have:=c _ e;omega) (ae.ch i λe=>by have:=c _ e;omega) (q6.kr.ch i λe=>by have:=c _ e;omega) q.l4)
 have ai:(λa:Int×Int×Ml=>!!inM [x] (Nj uid a))=λa=>inM [x] (Nj uid a):=by funext a;simp
 rw[ai]at o7;have n7:=c7.next;refine⟨C,h7,?_,?_,M.own c7 λj e=>by have:=c j e;omega,λj e=>?_⟩;rotate_left
 ·refine o7.ch gX (Nw.refl _) (λ_ _ q=>q) λj hj pj=>⟨⟨by have:=pj.1;omega,λe=>pj.2 (i7 j e)⟩,λq=>q⟩
 ·exact⟨by have:=c j (i7 j e);omega,by have:=(o6.eu (i7 j e)).2;omega⟩
 ·rw[auA];cases uid with
  |false=>
   have z:yh false ks.2.2=(ks.2.2.length:Int):=rfl;rw[z]at e4;simp(disch:=omega)only[vvB,a!,reduceCtorEq,↓reduceIte,ZI,Zj,Zi,Zh,Zg,Zf,Ze,Y9,UY,B1,B2,W0,eK,K0,R0,C1,e3,lu,K3,R4,W3,e4,Pg,S5,K5,E,G,e6,e7];simp only[aU,bW,vvB,a!,reduceCtorEq,↓reduceIte,bZ];rfl
  |true=>
   obtain⟨t,ht⟩:∃t,ks.2.2.length=t+1:=by
    cases hq:ks.2.2 with
    |nil=>rw[hq]at aa;simp[yh]at aa
    |cons a b=>exact⟨b.length,rfl⟩
   obtain⟨y,hy⟩:∃y,ks.2.2[t]?=some y:=⟨_,c! (by omega)⟩
   have z:yh true ks.2.2=y.1:=by
    unfold yh;rw[if_pos rfl,B!,ht,Nat.add_sub_cancel,hy]
   rw[z]at e4;have aq:(m.map (·.uid))[t]?=some y.1:=by rw[ap,h!,hy];rfl
   obtain⟨iu,qu,ag,ar,ah,-,-,-,au,-⟩:=Ru.elt aq;obtain rfl:ag=gV y.1:=ah;have l:=au k rfl 0 (iV y.1) rfl;rw[z!]at l;rw[ht]at lu;have ab:(((t+1:Nat):Int) - 1)=(t:Int):=by omega
   have aj:(((t+1:Nat):Int)>0)=True:=eq_true (by omega);simp(disch:=omega)only[vvB,a!,reduceCtorEq,↓reduceIte,ZI,Zj,Zi,Zh,Zg,Zf,ak2,Ze,Y9,UY,B1,B2,W0,eK,K0,R0,C1,e3,lu,aj,ab,ar,l,K3,R4,W3,e4,Pg,S5,K5,E,G,e6,e7];simp only[aU,bW,vvB,a!,reduceCtorEq,↓reduceIte,bZ];rfl
end
section
variable{h h' h0:Hp}{P F I J Z:Pos->Prop}{ps pl ib ir pc im:Pos}{C:Acc}{cb:Cap}{fb only:Bool}{vm vl vv vw vk:V}{box:Int}{st:Sn}{L:List V}{s:List Nat}{w:Wds}{ks:Int×Int×List (Int×Int×Int)}{bb:Nat}{n:Int}{r:List (Int×Int)}{x:Wd}
theorem aoR(q:Rq bb h0 Z h pc im ps ir true w s st L vw P F J pl ib cb fb vm vl vv I)(E:st.vw=some ks)(ho:st.only=false)(hw:w.len=1)(G:w.get? 0=some x)(M:x.kind≠3)(m:ahn x.text (yh true ks.2.2)=some r)
  (a:Purges st.acc ks ((fH st.acc.aP ks.1 0 ks.2.2).filter λy=>inM r (Nj true y)) C):
  ∃h',uU [X pc 0,X ir 0] h=D (anV 0 [] false false false) h'/\tZ bb h0 Z vw P h' pc im ps ir true w s {st with acc:=C}:=by
 obtain⟨h1,B,c1,k1⟩:=mkW h (O (N tA true) zAn);have t:=q.nw c1;have W:¬OfB ir 5 L h.next:=λo=>by have:=(o.from q.bd _).2;omega
 have k:¬Ft F J pc im h.next:=λo=>by have:=q.wd.lt _ o;omega
 have n1:=c1.next;have hz:=q.chz.next;have R1:=t.kr.ld t.l1;obtain⟨r0,h2,e2,o2,u⟩:=t.messages E a.small a.few;have b:=t.nw u;have k2:=k1.nw u;have n2:=u.next;have R4:=b.kr.ld b.l4;have R3:=b.kr.ld b.l3;have wl:=b.apv h2;rw[hw]at wl;obtain⟨jw,qw,vk,i,S⟩:=WS.atN b.ws G;have i:∀h',bJ 3 vw (Y U 0) h'=D (X jw qw) h':=i;obtain⟨vr,ae,v,ab,d,c⟩:=b.set (vk:=vk) E a.small a.few M m;have p:=b.nw d;have Q:=k2.nw d;have ai:=d.next;have C2:=p.wd.con.ld (q:=2) (x:=K st.only) rfl;rw[ho]at C2;have ag:=k1.2;obtain⟨h3,F',aj,ah,ac,ad,al,ak,I',e3,q3,c3,f3⟩:=aj2 p ab (λj pj=>⟨pj.2,by have:=pj.1;omega⟩)
  (λj e=>⟨λo=>by have:=(o.from b.bd _).2;have:=(c j e).1;omega,λf=>by have:=b.wd.lt _ f;have:=(c j e).1;omega,by have:=(c j e).1;omega⟩) a.len a.small E a.ds a.smallC λx hx=>a.box x (a.sub x hx)
 have k3:=Q.ch c3 λe=>by
  rcases e with e|e
  ·have:=q.wd.acc.st.2;rw[<-e]at this;omega
  ·have:=(c _ e).1;omega
 obtain⟨z,e4,c4⟩:=an7 h3;have k4:=k3.nw c4;obtain⟨l,g⟩:∃l,l=z.put h.next (some (O (N tA true) (anL 0 [] false false false))):=⟨_,rfl⟩
 have S5:aT 5 (X h.next 0) (anV 0 [] false false false) z=D V.undef l:=by rw[g];exact k4.stN rfl rfl
 have k5:Kn l h.next (O (N tA true) (anL 0 [] false false false)):=by rw[g];exact k4.put _
 have c5:Ch (λj=>j=h.next) z l:=by rw[g];exact Ch.put _ _ rfl
 have aa:¬Ft F' J pc im h.next:=λf=>by
  have af:=q3.wd.fj;rcases f with f|f|f|f
  ·rcases f3 _ f with e|e
   ·have:=q.wd.acc.st.2;rw[<-e]at this;omega
   ·omega
  ·exact k (.inr (.inl f))
  ·exact k (.inr (.inr (.inl f)))
  ·exact k (.inr (.inr (.inr f)))
 have q5:=(q3.nw c4).Tt c5 W aa (by omega);refine⟨l,?_,q5.mk'⟩;rw[Ij];simp(disch:=omega)only[vvB,a!,reduceCtorEq,↓reduceIte,Aj,A7,AZ,AY,Xq,Xp,Xo,Xn,yZ,GU,<-B,R1,e2,R4,R3,wl,i,S,v,C2,e3,e4,S5];simp only[aU,bW,vvB,a!,reduceCtorEq,↓reduceIte,ni,k5.ldN (n:=5) rfl,bZ]
end
section
variable{bb:Nat}{h h' g h0:Hp}{P F I J Z S:Pos->Prop}{ps pl ib p ir pc im i:Pos}{C:Acc}{cb:Cap}{fb only last bare:Bool}{v vm vl vv vw:V}{k f n:Nat}{b:Bx}{st st2:Sn}{L a:List V}{s s2:List Nat}{w:Wds}{ks:Int×Int×List (Int×Int×Int)}{x:Wd}{r:List (Int×Int)}
theorem Bd.aHX{b:Nat}{h:Hp}{i:Pos}{q:Nat}{t:TypeId}{l:List V}{s:List Nat}(d:Bd b h i q t l s){k:Nat}(v:V)(B:k≠q)(m:k≠q+1):
  Bd b (h.put i (some (O (N t true) (l.set k v)))) i q t (l.set k v) s/\Stp (OfB i q l) h (OfB i q (l.set k v)) (h.put i (some (O (N t true) (l.set k v)))):=by
 obtain⟨vb,b1,b2,u⟩:=d.buf;have c:Ch (λj=>j=i) h (h.put i (some (O (N t true) (l.set k v)))):=Ch.put _ _ rfl;have hb:(l.set k v)[q+1]?=some vb:=by rw[d! m];exact b1
 refine⟨⟨d.hb,by rw[jQ];exact d.hi,jE _ _ _,by rw[d! B];exact d.addr,⟨vb,hb,b2.ch c u,u⟩,by rw[Pe];exact d.lies⟩,⟨c.mono λj _ e=>.inl e,λj o=>?_⟩⟩;rcases o with o|⟨v2,y,z⟩
 ·exact .inl (.inl o)
 ·rw[hb]at y;cases y;exact .inl (.inr ⟨vb,b1,z⟩)
theorem aDY(q:Rq bb h0 Z h pc im ps ir false w s st L vw P F J pl ib cb fb vm vl vv I)(B:w.get? 0=some x)(ah:x.kind=1)(ai:x.text.length<=1000000/\∀c∈x.text,c<256)(hf:AL (foldM x.text) QN=some (f,n,true))(hm:aqL n st)
  (hc:∀vw',Cmd f bb pc im ps ir true (w.drop 1) s st vw' P a s2 st2) (hl:a.length=5):
  ∃h' vw',SQ [X pc 0,X ir 0,H ahi] h=D (.agg (V.ofList a)) h'/\tZ bb h0 Z vw' P h' pc im ps ir true (w.drop 1) s2 st2:=by
 obtain⟨E,ag,c1,k1⟩:=mkW h (O (N tA true) zAn);have q1:=q.nw c1;have hz:=q.chz.next;have n1:=c1.next;have af:=q.bd.hi;have ha:OO w 0=true:=by unfold OO;rw[B];exact decide_eq_true ah
 have A0:Dz [vw,Y U 0] E=D (K true) E:=by have:=acL q1.ws 0;rwa[ha]at this
 obtain⟨j,jq,vk,i1,i2,i3,i4,-⟩:=WS.at q1.ws B;have aj:∀h',bJ 3 vw (Y U 0) h'=D (X j jq) h':=i1;have ak:aF (X j (jq+1)) E=D (H x.text) E:=i3;obtain⟨rf,G,e2,rfl,c2⟩:=ahJ (h:=E) (by omega) ai.2;have M:Nw E G:=c2;have u:=q1.nw M;have k2:=k1.nw M;have n2:=c2.next;obtain⟨d,es,ab⟩:=u.ws.from (k:=1) (by have:=Wds.Po B;omega)
 have ae:∀h',eY 3 vw (some (Y U 1)) none none h'=D d h':=es;have R3:=q1.kr.ld q1.l3;have ac:=u.kr.ld u.l3;have W:3<L.length:=(e!.1 q.l3).1;have aa:4<L.length:=(e!.1 q.l4).1;have S3:=PV u.bd.get (q:=3) (y:=d) ab.cell W;obtain⟨d3,p3⟩:=u.bd.aHX (k:=3) d (by omega) (by omega);have S4:=PV d3.get (q:=4) (y:=K true) ⟨rfl,rfl⟩ (by rw[Pe];exact aa);obtain⟨d4,p4⟩:=d3.aHX (k:=4) (K true) (by omega) (by omega);have t:Ch (λj=>j=ir) G ((G.put ir (some (O (N tRq true) (L.set 3 d)))).put ir (some (O (N tRq true) ((L.set 3 d).set 4 (K true))))):=(Ch.put (S:=λj=>j=ir) _ _ rfl).trans (Ch.put (S:=λj=>j=ir) _ _ rfl) λ_ _ q=>q;have z:OfB ir 5 L ir:=.inl rfl;have Q:h.next≠ir:=λe=>by rw[<-e]at af;omega
 have m:∀j,OfB ir 5 ((L.set 3 d).set 4 (K true)) j->OfB ir 5 L j\/G.next.nat<=j.nat:=λj o=>by
  rcases p4.sub _ o with o|o
  ·exact p3.sub _ o
  ·rw[jQ]at o;exact .inr o
 have gen:∀(k y:Nat),True:=λ_ _=>trivial;have e1:((L.set 3 d).set 4 (K true))[1]?=L[1]?:=by rw[d! (by omega),d! (by omega)]
 have e0:((L.set 3 d).set 4 (K true))[0]?=L[0]?:=by rw[d! (by omega),d! (by omega)]
 have q4:Rq bb h0 Z ((G.put ir (some (O (N tRq true) (L.set 3 d)))).put ir (some (O (N tRq true) ((L.set 3 d).set 4 (K true))))) pc im ps ir true (w.drop 1) s st ((L.set 3 d).set 4 (K true)) d P F J pl ib cb fb vm vl vv I:=
  {bd:=d4
   hbb:=q.hbb
   ob:=λj o=>(m j o).elim (q.ob j) λl=>.inr (by omega)
   l1:=e1.trans q.l1
   l3:=by rw[d! (by omega),u! W]
   l4:=by rw[u! (by rw[Pe];exact aa)]
   l0:=e0.trans q.l0
   ws:=ab.ch t λj _ p=>⟨p,λe=>by have:=(q.old j p).1;have:=(z.from q.bd _).1;rw[e] at*;omega⟩
   wd:=u.wd.ch t λj f e=>q.dis j (e▸z) f
   dis:=λj o f=>(m j o).elim (λo=>q.dis j o f) λl=>by have:=u.wd.lt j f;omega
   old:=q.old
   foot:=q.foot
   chz:=u.chz.trans t λj hj e=>(q.ob j (e▸z)).resolve_right (by omega)}
 have k4:=k2.ch t Q;have ad:¬(Ft F J pc im h.next\/OfB ir 5 ((L.set 3 d).set 4 (K true)) h.next):=λe=>by
  rcases e with e|e
  ·have:=q.wd.lt _ e;omega
  ·rcases m _ e with e|e
   ·have:=(OfB.from q.bd _ e).2;omega
   ·have:=k1.2;omega
 rw[aem,ad6]
 suffices hT:aX p! [.cell 6 tA] (RunT bb h0 Z d P pc im ps ir true (w.drop 1) a s2 st2)
   (aB Af (aB (aB Ae (aV (.tmp 11) (aB (aB JS (aV (.tmp 17) (aB RQ l!) w!)) (aB JR JQ)) w!)) ahp) (T.set (some (H ahi)) (b! 2) (T.set (some (X ir 0)) (b! 1) (T.set (some (X pc 0)) (b! 0) T.nil))) h) by
  obtain⟨r,h',e,rfl,q⟩:=hT;exact⟨h',d,e,q⟩
 generalize ((G.put ir (some (O (N tRq true) (L.set 3 d)))).put ir (some (O (N tRq true) ((L.set 3 d).set 4 (K true)))))=al at*;simp(disch:=omega)only[vvB,a!,reduceCtorEq,↓reduceIte,Af,Ae,JS,JR,JQ,<-ag,R3,ac,A0,aj,ak,e2,ae,S3,S4];exact auN q4 k4 ad hz hf (λ_=>rfl) hm (hc d) hl (qK0) (qK0) (qK0) (qK0)
theorem rQ.behind(d:w.get? 0=some x)(j:x.kind=1)(l:x.text.length<=1000000/\∀c∈x.text,c<256)(o:AL (foldM x.text) QN=some (f,n,true))(t:aqL n st)
  (m:∀(bb:Nat) (ir:Pos) (vw:V) (P:Pos->Prop),Cmd f bb pc im ps ir true (w.drop 1) [] st vw P a s2 st2) (hl:a.length=5):rQ pc im ps w ahi st a s2 st2:=
 λbb h0 Z h ir L vw P F J pl ib cb fb vm vl vv I q=>by
  obtain⟨h',vw',e,r⟩:=aDY q d j l o t (λvw'=>m bb ir vw' P) hl;exact⟨h',vw',P,_,true,e,r⟩
theorem aBA(c:st.vw=some ks)(u:st.only=false)(t:0<=st.cnt/\st.cnt<1000)(z:1<=yh true ks.2.2/\yh true ks.2.2<=20)(m:Purges st.acc ks ((fH st.acc.aP ks.1 0 ks.2.2).filter λy=>inM [(1,1)] (Nj true y)) C)(o:CanUpd C ks):iR pc im ps aB8 st (uI C (some ks)++okT [120] []) true {st with cnt:=st.cnt+1,acc:=C,vw:=I4 C (some ks)}:=by
 have j:∀k,some ks=some k->CanUpd C k:=λk e=>by cases e;exact o
 have hl:=(alG j).1;have d:ahn [49] (yh true ks.2.2)=some [(1,1)]:=by unfold ahn;rw[if_pos z,if_pos rfl]
 have:=iR.cmd (pc:=pc) (im:=im) (ps:=ps) (st:=st) (g:=aB8) (x:=⟨1,[120],.nil⟩) (y:=⟨1,[85,73,68],.nil⟩) (kk:=0) (tx:= []) (last:=false) (bare:=false) (s2:= []) (st2:={st with cnt:=st.cnt+1,acc:=C}) rfl rfl rfl rfl rfl ⟨by decide,by decide⟩ ⟨by decide,by decide⟩ ⟨t.1,by omega⟩
  (rQ.behind (n:=3) (f:=CV) (x:=⟨1,[69,88,80,85,78,71,69],.nil⟩) rfl rfl ⟨by decide,by decide⟩ rfl (.inr (.inr (.inr ⟨rfl,by rw[show({st with cnt:=st.cnt+1}:Sn).vw=st.vw from rfl,c];simp⟩))) (λbb ir vw P h0 Z h L F J pl ib cb fb vm vl vv I q=>by
   obtain⟨l,e,r⟩:=aoR (x:=⟨1,[49],.nil⟩) q c u rfl rfl (by decide) d m;exact⟨l,e,r⟩) rfl) (.inl rfl) ⟨by simp,by simp⟩ ⟨by simp,by simp⟩ (λ_ _ k e=>j k (by rw[<-c];exact e)) (by
   show(kU 0 [120] [] [] false {st with cnt:=st.cnt+1,acc:=C}).length<=2000000;unfold kU;rw[if_neg (by decide),if_neg (by simp)];show([]++uI C st.vw++okT [120] []).length<=2000000;rw[c];simp[okT,lineS,dN];omega)
 have e1:kU 0 [120] [] [] false ({st with cnt:=st.cnt+1,acc:=C}:Sn)=uI C (some ks)++okT [120] []:=by
  unfold kU;rw[if_neg (by decide),if_neg (by simp)];show []++uI C st.vw++okT [120] []=_;rw[c];rfl
 have e2:zB 0 false ({st with cnt:=st.cnt+1,acc:=C}:Sn)={st with cnt:=st.cnt+1,acc:=C,vw:=I4 C (some ks)}:=by
  unfold zB;rw[if_neg (by simp)];show({st with cnt:=st.cnt+1,acc:=C,vw:=I4 C st.vw}:Sn)=_;rw[c]
 rw[e1,e2]at this;exact this
end
end Go.Proofs.Im
namespace Go.Im
def Tf(p:Em->Bool):Nat->List Em->List Nat
 |_,[]=> []
 |k,e::l=>if p e=true then Tf p (k+1) l else oW (k+1) [iF]++Tf p k l
theorem ab3{p:Em->Bool}:∀{l:List Em} {k:Nat},(∀e∈l,p e=true)->Tf p k l= []
 | [],_,_=>rfl
 |e::l,k,h=>by
  show(if p e=true then _ else _)=_;rw[if_pos (h e (by simp)),ab3 λx a=>h x (by simp[a])]
def nU:Nat->List Bool->List Nat
 |_,[]=> []
 |k,true::l=>oW (k+1) [iF]++nU k l
 |k,false::l=>nU (k+1) l
theorem alF:∀(l:List Em) (k:Nat),aiK k l=nU k (l.map (·.mark))
 | [],_=>rfl
 |e::l,k=>by
  show(if e.mark=true then _ else _)=nU k (e.mark::l.map (·.mark));cases e.mark
  ·rw[if_neg (by simp),alF l (k+1)];rfl
  ·rw[if_pos rfl,alF l k];rfl
end Go.Im
namespace Go.Im.DAcc
section
variable{A C:Acc}{l:List Em}{e:Em}
theorem YF(d:DAcc A l){p:Em->Bool}(a:DAcc C (l.filter p)):∀(s:List Em) (k:Nat),(∀e∈s,e∈l)->yA (Wn C.aP 1) k (s.map keyE)=Tf p k s
 | [],_,_=>rfl
 |e::s,k,h=>by
  have c:=d.anU a (h e (by simp));rw[x!];show(if((Wn C.aP 1).find? λy=>decide (y.1=(keyE e).1)&&decide (y.2.id=(keyE e).2.1)).isSome=true then _ else _)=(if p e=true then _ else _);rw[c,d.YF a s k λx b=>h x (by simp[b]),d.YF a s (k+1) λx b=>h x (by simp[b])]
theorem axh(d:DAcc A l){p:Em->Bool}(a:DAcc C (l.filter p)):uI C (some (dJ A 1))=Tf p 0 l:=by
 show yA (Wn C.aP 1) 0 (dJ A 1).2.2=_;rw[d.chosen];exact d.YF a l 0 λ_ h=>h
theorem aqF(d:DAcc A l){sel:Int×Int×Ml->Bool}{f:Em->Bool}(a:∀(e:Em) (i:Nat),sel ((i:Int)+1,(e.i:Int)+1,mkE e)=f e):∀(s:List Em) (i:Nat),(∀e∈s,e∈l)->
  ((fH A.aP 1 i (s.map keyE)).filter sel).map (·.2.2)=(s.filter f).map mkE
 | [],_,_=>rfl
 |e::s,i,h=>by
  rw[x!];show((yt A.aP 1 i (keyE e)++fH A.aP 1 (i+1) (s.map keyE)).filter sel).map (·.2.2)=_;rw[d.aqG (h e (by simp)),List.filter_append,List.map_append,d.aqF a s (i+1) λx b=>h x (by simp[b]),t!,t!,a];cases f e<;>simp
theorem aH2(d:DAcc A l)(B:A.clock<60){sel:Int×Int×Ml->Bool}{f:Em->Bool}(z:∀(e:Em) (i:Nat),sel ((i:Int)+1,(e.i:Int)+1,mkE e)=f e):
  ∃C,Purges A (dJ A 1) ((fH A.aP (dJ A 1).1 0 (dJ A 1).2.2).filter sel) C/\DAcc C (l.filter λe=>!(e.mark&&f e)):=by
 have s:((l.filter f).filter λe=>e.mark).length<=l.length:=D! (v! _ _) (v! _ _);have r:=d.few;have c:∀x∈(l.filter f).filter (λe=>e.mark),x∈l:=λx a=>(j!.1 (j!.1 a).1).1;obtain⟨C,u,n⟩:=ax7 ((l.filter f).filter λe=>e.mark) d c ((d.ord.sublist G!).sublist G!) (by omega);have w:(l.filter λy=>!(((l.filter f).filter λe=>e.mark).any λx=>decide (x.i=y.i)))=l.filter λe=>!(e.mark&&f e):=by
  apply J!;intro y g;congr 1;cases j:(y.mark&&f y) with
  |true=>
   rw[Bool.and_eq_true]at j;exact List.any_eq_true.2 ⟨y,j!.2 ⟨j!.2 ⟨g,j.2⟩,j.1⟩,by simp⟩
  |false=>
   rw[List.any_eq_false];intro x a;have q:=c x a;obtain⟨p,b⟩:=j!.1 a;have m:=(j!.1 p).2;simp only[decide_eq_true_eq];intro e;have:=d.same q g e;rw[this]at b m;have b:y.mark=true:=b;rw[b,m]at j;cases j
 rw[w]at n;refine⟨C,⟨d.small,by rw[d.chosen,k!];omega,λx a=>(j!.1 a).1,?_,?_,n.small,?_⟩,n⟩
 ·have:=KU A.aP (dJ A 1).1 (dJ A 1).2.2 0;have o:=v! sel (fH A.aP (dJ A 1).1 0 (dJ A 1).2.2);rw[d.chosen,k!]at this;rw[d.chosen]at o⊢;omega
 ·have t:(((fH A.aP (dJ A 1).1 0 (dJ A 1).2.2).filter sel).filter λx=>lJ x.2.2).map (·.2.2)=((l.filter f).filter λe=>e.mark).map mkE:=by
   have o:((((fH A.aP (dJ A 1).1 0 (dJ A 1).2.2).filter sel).map (·.2.2)).filter lJ)=(((fH A.aP (dJ A 1).1 0 (dJ A 1).2.2).filter sel).filter λx=>lJ x.2.2).map (·.2.2):=M!;rw[<-o,d.chosen];show(((fH A.aP 1 0 (l.map keyE)).filter sel).map (·.2.2)).filter lJ=_;rw[d.aqF z l 0 λ_ h=>h,M!];congr 1;apply J!;intro e _;exact ajl e
  rw[t];exact u
 ·intro x a;have k:x.2.2∈l.map mkE:=by
   rw[<-d.msgs l 0 λ_ h=>h];rw[d.chosen]at a;exact List.mem_map_of_mem a
  obtain⟨e,_,v⟩:=List.mem_map.1 k;rw[<-v];refine⟨?_,by rw[qY];simp,λy g=>?_⟩
  ·unfold mkE;simp only[];split<;>simp
  ·rw[qY]at g;simp at g;rw[g];rfl
theorem aKP(e:Em)(i:Nat):(λy:Int×Int×Ml=>inM [(1,1)] (Nj true y)) ((i:Int)+1,(e.i:Int)+1,mkE e)=decide (e.i=0):=by
 show inM [(1,1)] ((e.i:Int)+1)=_;unfold inM;by_cases h:e.i=0
 ·simp[h]
 ·simp[h];omega
end
end Go.Im.DAcc
namespace Go.Vm
section
variable{h:Hp}
theorem aql{z:V}{n bt:Nat}{el:TypeId}(a:n*bt<=140737488355328):vZ el bt [z] (Y U (n:Int)) (Y U (n:Int)) h=D (.slice h.next 0 n (.kn n)) (h.new (O (N el true) (times n [z]))):=by
 show(match T! n n,T! (Nat.mul n bt) 140737488355328 with
  |true,true=>R.ok (V.slice h.next 0 n (.kn n)) (h.new (O (N el true) (times n [z])))
  |_,_=>.bad)=_
 rw[E! (F! n),show T! (Nat.mul n bt) 140737488355328=true from E! a]
theorem anp(z:V):∀n:Nat,times n [z]=((i! n ([]:List Nat)).map λ_=> [z]).flatten
 |0=>rfl
 |n+1=>by
  show z::times n [z]=_;rw[anp z n];rfl
end
end Go.Vm
namespace Go.Im
def DK(b:Bool):List V:= [K b]
def yu(l:List Bool)(k:Nat):List Bool:=l.take k++i! (l.length - k) false
def rG(l:List Bool):Nat:=l.countP λb=>!b
theorem QF{l:List Bool}{k:Nat}{b:Bool}(h:l[k]?=some b):yu l k=l.take k++false::i! (l.length - (k+1)) false/\yu l (k+1)=l.take k++b::i! (l.length - (k+1)) false:=by
 have a:=(e!.1 h).1;refine⟨?_,?_⟩
 ·unfold yu;rw[show l.length - k=(l.length - (k+1))+1 by omega,List.replicate_succ]
 ·unfold yu;rw[Go.Vm.take_snoc h,y!];rfl
theorem atD{l:List Bool}{k:Nat}(h:l[k]?=some false):yu l (k+1)=yu l k:=by rw[(QF h).1,(QF h).2]
theorem axO{l:List Bool}{k:Nat}(h:l[k]?=some true):(yu l k).set k true=yu l (k+1):=by
 have a:=(e!.1 h).1;rw[(QF h).1,(QF h).2,List.set_append_right _ _ (by rw[q!];omega),q!,P! (by omega),S!];rfl
theorem azl{l:List Bool}{k:Nat}{b:Bool}(h:l[k]?=some b):(yu l k)[k]?=some false:=by
 have a:=(e!.1 h).1;rw[(QF h).1,List.getElem?_append_right (by rw[q!];omega),q!,P! (by omega),S!];rfl
theorem aEk(l:List Bool):yu l 0=i! l.length false:=by simp[yu]
theorem azk(l:List Bool):yu l l.length=l:=by simp[yu]
theorem axV{l:List Bool}{k:Nat}{b:Bool}(h:l[k]?=some b):rG (l.take (k+1))=rG (l.take k)+(if b=true then 0 else 1):=by
 unfold rG;rw[Go.Vm.take_snoc h,List.countP_append,List.countP_singleton];cases b<;>rfl
theorem acJ:∀l:List Em,(l.filter λe=>!e.mark).length=rG (l.map (·.mark))
 | []=>rfl
 |e::l=>by
  have a:=acJ l;unfold rG at a⊢;rw[t!,x!,List.countP_cons];cases e.mark
  ·simp[a]
  ·simp[a]
theorem ab4:∀(l:List Bool) (k:Nat),k+l.length<99->(nU k l).length<=14*l.length
 | [],_,_=>by simp[nU]
 |true::l,k,h=>by
  simp only[r!]at h;have b:=(XW (n:=k+1) (by omega)).1;have a:=ab4 l k (by omega);simp only[nU,H!,r!];omega
 |false::l,k,h=>by
  simp only[r!]at h;have a:=ab4 l (k+1) (by omega);simp only[nU,r!];omega
theorem aBE(n:Nat)(w:List Nat):w++ [42,32]++iq n++ [32,69,88,80,85,78,71,69,13,10]=w++oW n [iF]:=by
 simp[oW,dN,y!]
end Go.Im
namespace Go.Proofs.Im
section
variable{h h' g:Hp}{P F I:Pos->Prop}{ps pl ib:Pos}{A:Acc}{cb:Cap}{fb:Bool}{v vm vl:V}{marks:List Bool}{l:List Em}
theorem DZ(h:Hp):tq [] h=D (K true) h:=PW rfl h
theorem aKY{k:Nat}(a:k+1<100)(h:Hp):VK [Y U ((k:Int)+1)] h=D (H (iq (k+1))) h:=PW (avH a) h
theorem azf{a:Nat}{c:EqC}(h:Hp):aJ .rem c (Y .u8 (a:Int)) (Y .u8 4) h=D (Y .u8 ((a % 4:Nat):Int)) h:=by
 show(match mG 4 0 with|true=>R.bad|false=>iy .u8 (Int.tmod (a:Int) 4) h)=_;rw[uY,decide_eq_false (by decide),fU];rfl
structure Dst (g:Hp) (F:Pos->Prop) (ps:Pos) (A:Acc) (l:List Em) (marks:List Bool) (pl ib:Pos) (cb:Cap) (fb:Bool) (vm vl:V) (I:Pos->Prop) (P:Pos->Prop) (v:V):Prop where
 acc:dG g F ps A pl ib cb fb vm vl I
 d:DAcc A l
 is:l.map (·.i)=g! marks.length
 ms:l.map (·.mark)=marks
 clock:A.clock<60
 row:Rws P (flat DK) 1 g v marks
 apart:∀j,P j->¬F j
 hG:Ik.aH<=g.next.nat
theorem aqP(a:dG h F ps A pl ib cb fb vm vl I)(d:DAcc A l):∃r h',jO [X ps 0] h=D r h'/\aZ 2 r h'=D (Y U (l.length:Int)) h'/\Nw h h':=by
 obtain⟨r,h',e,o,c⟩:=OT a d.small;refine⟨r,h',e,?_,c⟩;have:=(o.rws dw).len h'
 rwa[d.len]at this
end
section
variable{ps pc im:Pos}{A C:Acc}{l:List Em}{n:Nat}{b:Bx}
abbrev stA(A:Acc)(cnt:Int):Sn:={acc:=A,inn:=true,only:=false,cnt:=cnt,vw:=some (dJ A 1)}
theorem Alls.one{gs:List Ln.Got}{a:Ln.Got}{st st1:Sn}{t:List Nat}(d:iR pc im ps a st t true st1)(e:gs= [a]):Alls pc im ps gs st t st1:=by
 subst e;have:=Alls.go d (.nil st1);rwa[N!]at this
theorem Alls.two{gs:List Ln.Got}{a c:Ln.Got}{st st1 st2:Sn}{t u:List Nat}(d:iR pc im ps a st t true st1)(f:iR pc im ps c st1 u true st2)(e:gs= [a,c]):Alls pc im ps gs st (t++u) st2:=by
 subst e;have:=Alls.go d (.go f (.nil st2));rwa[N!]at this
theorem ayh(d:DAcc A l):(dJ A 1).2.2.length=l.length:=by rw[d.chosen,k!]
theorem aCx(d:DAcc A l)(h:A.clock<60):∃C a,Alls pc im ps (oZ Ik.flB) (stA A 2) (nU 0 (l.map (·.mark))++okT [120] []) a/\a.acc=C/\DAcc C (l.filter λe=>!e.mark):=by
 obtain⟨C,g,c⟩:=d.ai7 h;have f:=apO (pc:=pc) (im:=im) (ps:=ps) (st:=stA A 2) rfl rfl ⟨by simp,by simp⟩ g (d.azM c);rw[d.ayZ c,alF]at f;exact⟨C,_,Alls.one f azx,rfl,c⟩
theorem aCz(d:DAcc A l)(g:A.clock<60):∃C a,Alls pc im ps (oZ Ik.flC) (stA A 2) (okT [120] []++([121]++noS++mP++ [13,10])) a/\a.acc=C/\DAcc C (l.filter λe=>!e.mark):=by
 obtain⟨C,f,c⟩:=d.ai7 g;exact⟨C,_,Alls.two (axn (st:=stA A 2) rfl rfl ⟨by simp,by simp⟩ f) (aoE rfl ⟨by simp,by simp⟩) azz,rfl,c⟩
theorem aCy(d:DAcc A l):∃t,Alls pc im ps (oZ Ik.flD) (stA A 2) t {stA A 3 with only:=true}:=by
 obtain⟨b,c,hb⟩:=d.azN;have a:=apP (pc:=pc) (im:=im) (ps:=ps) (st:=stA A 2) rfl ⟨by simp,by simp⟩ c;rw[hb]at a;exact⟨_,Alls.one a azy⟩
theorem aEP(d:DAcc A l):∃a,Alls pc im ps (oZ Ik.flE) {stA A 3 with only:=true} (([120]++noS++mP++ [13,10])++okT [121] []) a/\a.acc=A:=
 ⟨_,Alls.two (aiW (st:={stA A 3 with only:=true}) rfl rfl ⟨by simp,by simp⟩ d.small (by show(dJ A 1).2.2.length<=1000;rw[ayh d];have:=d.few;omega)) (ahl rfl rfl ⟨by simp,by simp⟩) aCf,rfl⟩
theorem apM(d:DAcc A l)(a:l.map (·.i)=g! n)(g:1<=n/\n<=20):1<=yh true (dJ A 1).2.2/\yh true (dJ A 1).2.2<=20:=by
 have hl:l.length=n:=by have:=congrArg o! a;simpa using this
 obtain⟨x,c⟩:∃x,l[n - 1]?=some x:=⟨_,c! (by omega)⟩
 have f:l.getLast?=some x:=by rw[B!,hl];exact c
 have hi:x.i=n - 1:=by
  have:(l.map (·.i))[n - 1]?=(g! n)[n - 1]?:=by rw[a]
  rw[h!,c,n! (by omega)]at this;simpa using this
 have e:yh true (dJ A 1).2.2=((n - 1:Nat):Int)+1:=by
  unfold yh;rw[if_pos rfl,d.chosen,List.getLast?_map,f];show((x.i:Int)+1)=_;rw[hi]
 rw[e];omega
theorem aCw(d:DAcc A l)(k:A.clock<60)(g:l.map (·.i)=g! n)(m:1<=n/\n<=20):∃C a,Alls pc im ps (oZ Ik.flF) (stA A 2) (Tf (λe=>!(e.mark&&decide (e.i=0))) 0 l++okT [120] []) a/\a.acc=C/\DAcc C (l.filter λe=>!(e.mark&&decide (e.i=0))):=by
 obtain⟨C,j,c⟩:=d.aH2 k (sel:=λy=>inM [(1,1)] (Nj true y)) (f:=λe=>decide (e.i=0)) DAcc.aKP;have h:=aBA (pc:=pc) (im:=im) (ps:=ps) (st:=stA A 2) rfl rfl ⟨by simp,by simp⟩ (apM d g m) j (d.azM c);rw[d.axh c]at h;exact⟨C,_,Alls.one h azw,rfl,c⟩
theorem ay0(d:l.map (·.i)=g! n)(o:1<=n){m0:Bool}(f:(l.map (·.mark))[0]?=some m0):
  Tf (λe=>!(e.mark&&decide (e.i=0))) 0 l=(if m0=true then oW 1 [iF] else [])/\(l.filter λe=>!(e.mark&&decide (e.i=0))).length=(if m0=true then n - 1 else n):=by
 cases l with
 |nil=>simp at f
 |cons e l=>
  obtain⟨k,rfl⟩:∃k,n=k+1:=⟨n - 1,by omega⟩
  simp at f;have h0:e.i=0:=by
   have:((e::l).map (·.i))[0]?=(g! (k+1))[0]?:=by rw[d]
   simpa using this
  have c:l.length=k:=by have:=congrArg o! d;simp at this;omega
  have a:∀x∈l,(!(x.mark&&decide (x.i=0)))=true:=λx m=>by
   obtain⟨t,g⟩:=List.mem_iff_getElem?.1 m;have j:=(e!.1 g).1;have:((e::l).map (·.i))[t+1]?=(g! (k+1))[t+1]?:=by rw[d]
   rw[x!,List.getElem?_cons_succ,h!,g,n! (by omega)]at this;have hi:x.i=t+1:=by simpa using this
   have:decide (x.i=0)=false:=decide_eq_false (by omega);rw[this];simp
  have h:l.filter (λe=>!(e.mark&&decide (e.i=0)))=l:=List.filter_eq_self.2 a;rw[t!,h];unfold Tf;rw[ab3 a,ab3 a,h0,f];cases m0
  ·simp[c]
  ·simp[c]
end
section
variable{h h' g:Hp}{P F:Pos->Prop}{ps pc im:Pos}{A C:Acc}{v:V}{marks:List Bool}{l:List Em}{n:Nat}{st:Sn}
def swW:Go.Vm.F->Hp->Out:=(bK 2 (aB jS (aV (.tmp 52) (aB Cm (aB lT (aB (aB lS (bK 3 (dI jh lf))) (aB lQ l!)))) (aB lM (aV (.tmp 90) (aB Ce (aB Cb l!)) (aB oQ (aV (.tmp 107) (aB BZ (aB BX (aB BV l!))) w!)))))))
def tailW:Go.Vm.F->Hp->Out:=aB CG (aB (aB CB swW) (aB uw (aB (aB uq (aV (.tmp 133) (aB BU l!) w!)) (aB BR l!))))
theorem afc:JW=(aB nC (aB (aB ny (aV (.tmp 23) (aB qo l!) w!)) (aB wM (aB (aB wL (aV (.tmp 30) (aB D8 l!) w!)) (aB wK (aB (aB wJ (bK 0 (dI nG lf))) tailW)))))):=rfl
abbrev DL(o:Out):Prop:=aX p! [.tmp 4] (λr _=>r=K true) o
theorem DL.ret{fr:Go.Vm.F}(a:fr.get (b! 4)=some (K true)):DL (.ret fr h):=aX.ret (r:=K true) (qT1 a) rfl
abbrev okX:List Nat:= [120,32,79,75,32,100,111,110,101,13,10]
theorem aDL:okT [120] []=okX:=by decide
theorem aCo:okT [120] []++([121]++noS++mP++ [13,10])= [120,32,79,75,32,100,111,110,101,13,10,121,32,78,79,32,115,116,97,116,101,13,10]:=by decide
theorem aEE:([120]++noS++mP++ [13,10])++okT [121] []= [120,32,78,79,32,115,116,97,116,101,13,10,121,32,79,75,32,100,111,110,101,13,10]:=by decide
theorem aBt:oW 1 [iF]++okT [120] []= [42,32,49,32,69,88,80,85,78,71,69,13,10,120,32,79,75,32,100,111,110,101,13,10]:=by decide
theorem aKt{fr:Go.Vm.F}{Z:Pos->Prop}(R:Rws P (flat DK) 1 g v marks)(hn:marks.length<=20)(x:WE g Z h pc im ps st)(I:st.acc=C)(dC:DAcc C l)(hl:l.length=rG marks)(hP:∀j,P j->¬Z j)
  (f0:fr.get (b! 0)=some v) (w:fr.get (b! 5)=some (X ps 0)) (y:fr.get (b! 6)=some (Y U (rG marks:Int))) (z:fr.get (b! 9)=some (H (nU 0 marks++okT [120] []))):
  ∃e h',aB lT (aB (aB lS (bK 3 (dI jh lf))) (aB lQ l!)) fr h=.ret e h'/\e.get (b! 4)=some (K true):=by
 obtain⟨F',J',ah,ag,ab,ac,aj,ai,ak,I',W,hf,c⟩:=x;have R2:Rws (λj=>True) (flat DK) 1 h v marks:=R.ch (aK _) c λj _ p=>⟨trivial,hP j p⟩
 have a:=W.acc;rw[I]at a;have rl:=λh=>R2.len h;have ae:=ab4 marks 0 (by omega);simp(disch:=omega)only[vvB,a!,reduceCtorEq,↓reduceIte,lT,lS];refine Oc.then (Q:=λo=>∃e h',o=.ret e h'/\e.get (b! 4)=some (K true)) (dZ (n:=marks.length) (λJ fr g=>∃(i k:Nat) (b:List Nat),fr.get (b! 0)=some v/\fr.get (b! 5)=some (X ps 0)/\fr.get (b! 6)=some (Y U (rG marks:Int))/\fr.get (b! 9)=some (H (nU 0 marks++okT [120] []))/\fr.get (b! 10)=some (H b)/\fr.get (b! 11)=some (Y U (i:Int))/\fr.get (b! 12)=some (Y U (k:Int))/\i+J=marks.length/\k<=i/\b++nU k (marks.drop i)=nU 0 marks/\Nw h g)
  (A:=λfr g=>fr.get (b! 5)=some (X ps 0)/\fr.get (b! 6)=some (Y U (rG marks:Int))/\fr.get (b! 9)=some (H (nU 0 marks++okT [120] []))/\fr.get (b! 10)=some (H (nU 0 marks))/\Nw h g) (B:=λ_ _=>False) (by rw[dW];omega) ?_ ?_) ?_ ?_
 ·exact⟨0,0,[],qK2 f0,qK2 w,qK2 y,qK2 z,qK0,qK1,qK1,by omega,by omega,rfl,Nw.refl _⟩
 ·rintro J fr g ⟨i,k,b,f0,w,y,z,d,t,u,hi,hk,s,G⟩;have af:b.length<=280:=by have:=congrArg o! s;rw[H!]at this;omega
  by_cases hz:J=0
  ·have f:i=marks.length:=by omega
   subst f;rw[List.drop_length]at s;have s:b=nU 0 marks:=by simpa[nU]using s
   subst s;simp(disch:=omega)only[vvB,a!,reduceCtorEq,↓reduceIte,jh,uz,f0,t,rl];exact⟨rfl,qK2 w,qK2 y,qK2 z,qK2 d,G⟩
  ·have f:i<marks.length:=by omega
   obtain⟨m,S⟩:∃m,marks[i]?=some m:=⟨_,c! f⟩
   have M:marks.drop i=m::marks.drop (i+1):=by rw[List.drop_eq_getElem_cons f];rw[c! f]at S;cases S;rfl
   rw[M]at s;obtain⟨ii,q,cs,ix,ex,-,-,-,ld,-⟩:=(R2.nw (aK _) G).elt S;obtain rfl:cs=DK m:=ex;have E:=ld g rfl 0 (K m) rfl;rw[z!]at E;cases m with
   |true=>
    have dg:=aKY (k:=k) (by omega) g;have ad:=(uO (n:=k+1) (by omega)).1;have aa:=aBE (k+1) b;have e1:aJ .add .none (H b) (H [42,32]) g=D (H (b++ [42,32])) g:=kz (by simp;omega);have e2:aJ .add .none (H (b++ [42,32])) (H (iq (k+1))) g=D (H (b++ [42,32]++iq (k+1))) g:=kz (by simp;omega);have L:aJ .add .none (H (b++ [42,32]++iq (k+1))) (H [32,69,88,80,85,78,71,69,13,10]) g=D (H (b++oW (k+1) [iF])) g:=by rw[kz (by simp;omega),aa]
    simp(disch:=omega)only[vvB,a!,reduceCtorEq,↓reduceIte,jh,uz,Cj,Ci,Oq,f0,d,t,u,rl,ix,E,dg,e1,e2,L];exact⟨J - 1,by omega,i+1,k,b++oW (k+1) [iF],qK2 f0,qK2 w,qK2 y,qK2 z,qK0,qK1,qK2 u,by omega,by omega,by rw[y!];exact s,G⟩
   |false=>
    simp(disch:=omega)only[vvB,a!,reduceCtorEq,↓reduceIte,jh,uz,Cj,Ci,Oo,f0,d,t,u,rl,ix,E];exact⟨J - 1,by omega,i+1,k+1,b,qK2 f0,qK2 w,qK2 y,qK2 z,qK2 d,qK1,qK1,by omega,by omega,s,G⟩
 ·rintro fr g ⟨w,y,z,d,G⟩;obtain⟨r,h2,e2,L,c2⟩:=aqP (a.nw G) dC;rw[hl]at L;have e1:aJ .add .none (H (nU 0 marks)) (H [120,32,79,75,32,100,111,110,101,13,10]) g=D (H (nU 0 marks++okT [120] [])) g:=by rw[kz (by simp;omega),aDL]
  simp(disch:=omega)only[vvB,a!,reduceCtorEq,↓reduceIte,lQ,w,y,z,d,e1,decide_true,e2,L,DZ];exact⟨_,_,rfl,qK0⟩
 ·intro fr g q;exact q.elim
end
section
variable{h h' g:Hp}{P F I:Pos->Prop}{ps pl ib pc im:Pos}{A C:Acc}{cb:Cap}{fb:Bool}{v vm vl:V}{marks:List Bool}{l:List Em}{how:Nat}{b:Bx}{st:Sn}
theorem WE.aP{Z:Pos->Prop}(x:WE g Z h pc im ps st)(d:st.acc=C)(f:DAcc C l):∃r h',jO [.ptr ps 0] h=D r h'/\aZ 2 r h'=D (Y U (l.length:Int)) h'/\Nw h h':=by
 obtain⟨p,s,k,j,e,i,n,m,o,q,W,t,c⟩:=x;have a:=W.acc;rw[d]at a;exact aqP a f
theorem aDX{fr:Go.Vm.F}(x:Dst g F ps A l marks pl ib cb fb vm vl I P v)(hn:1<=marks.length/\marks.length<=20)(hh:how<256)
  (f0:fr.get (b! 0)=some v) (f1:fr.get (b! 1)=some (Y .u8 (how:Int))) (o:fr.get (b! 5)=some (.ptr ps 0)) (w:fr.get (b! 6)=some (Y U (rG marks:Int))):
  DL (tailW fr g):=by
 obtain⟨b,hC,hb⟩:=x.d.azN;obtain⟨pc,im,h1,e1,w1,al⟩:=aKB x.acc hC x.hG;rw[hb]at w1;obtain⟨F',J',ao,an,ai,aj,aq,ap,ar,I',W,hf,c⟩:=w1;have L:∀j,P j->¬F j:=x.apart;have R1:Rws (λj=>P j/\j.nat<g.next.nat) (flat DK) 1 h1 v marks:=x.row.ch (aK _) c λj hj p=>⟨⟨p,hj⟩,L j p⟩
 have J:∀j,(P j/\j.nat<g.next.nat)->¬Ft F' J' pc im j:=λj p q=>(hf j q).elim (L j p.1) λl=>by omega
 have ad:l.length=marks.length:=by have:=congrArg o! x.is;simpa using this
 have Q:(l.filter λe=>!e.mark).length=rG marks:=by rw[acJ,x.ms]
 have er:=azf (a:=how) (c:=.none) h1;unfold tailW;simp(disch:=omega)only[vvB,a!,reduceCtorEq,↓reduceIte,CG,CB,f1,o,e1,er];unfold swW;obtain⟨q,hq⟩:∃q,q=how % 4:=⟨_,rfl⟩
 rw[<-hq];have am:q<4:=by omega
 clear hq er;rcases(by omega:q=0\/q=1\/q=2\/q=3) with rfl|rfl|rfl|rfl
 ·obtain⟨C,B,n,f,G⟩:=aCx (pc:=pc) (im:=im) (ps:=ps) x.d x.clock;rw[x.ms]at n;obtain⟨y,e2,u⟩:=XO W (s:=aKW) (by have:=c.next;have:=x.hG;omega) aKq n;have hz:∀fr:Go.Vm.F,fr.get (b! 0)=some v->fr.get (b! 5)=some (.ptr ps 0)->fr.get (b! 6)=some (Y U (rG marks:Int))->fr.get (b! 9)=some (H (nU 0 marks++okT [120] []))->∀k,DL (qF (BK 2 (aB lT (aB (aB lS (bK 3 (dI jh lf))) (aB lQ l!)) fr y)) k):=λfr f0 o w f9 k=>by
   obtain⟨ak,h',e,f4⟩:=aKt R1 hn.2 u f G Q J f0 o w f9;rw[e];exact DL.ret f4
  generalize hX:aB lT (aB (aB lS (bK 3 (dI jh lf))) (aB lQ l!))=X at hz⊢;simp(disch:=omega)only[vvB,a!,reduceCtorEq,↓reduceIte,jS,Cm,o,e2,O!,decide_true];exact hz _ (qK2 f0) (qK2 o) (qK2 w) (qK0) _
 ·obtain⟨C,B,n,f,G⟩:=aCz (pc:=pc) (im:=im) (ps:=ps) x.d x.clock;rw[aCo]at n;obtain⟨y,e2,u⟩:=XO W (s:=aK1) (by have:=c.next;have:=x.hG;omega) aKp n;obtain⟨r,h3,E,i,c3⟩:=u.aP f G;rw[Q]at i;simp(disch:=omega)only[vvB,a!,reduceCtorEq,↓reduceIte,jS,lM,Ce,Cb,o,w,e2,E,i,DZ,A!,decide_true,decide_false];exact DL.ret (qK0)
 ·obtain⟨t,n⟩:=aCy (pc:=pc) (im:=im) (ps:=ps) x.d;obtain⟨y,e2,u⟩:=XO W (s:=aKX) (by have:=c.next;have:=x.hG;omega) aKo n;obtain⟨F2,J2,pl2,ae,aa,ab,ag,af,ah,I2,W2,ac,c2⟩:=u;obtain⟨B,M,f⟩:=aEP (pc:=pc) (im:=im) (ps:=ps) x.d;rw[aEE]at M;obtain⟨h3,E,w3⟩:=XO W2 (s:=ecS) (by have:=c.next;have:=c2.next;have:=x.hG;omega) aKn M;obtain⟨r,h4,i,e5,c4⟩:=w3.aP f x.d;rw[ad]at e5;have rl:=R1.len;simp(disch:=omega)only[vvB,a!,reduceCtorEq,↓reduceIte,jS,lM,oQ,BZ,BX,BV,f0,o,w,e2,E,i,e5,rl,DZ,A!,decide_true,decide_false];exact DL.ret (qK0)
 ·obtain⟨C,B,n,f,G⟩:=aCw (pc:=pc) (im:=im) (ps:=ps) x.d x.clock x.is hn;obtain⟨m0,S⟩:∃m,marks[0]?=some m:=⟨_,c! (by omega)⟩
  obtain⟨u1,u2⟩:=ay0 x.is hn.1 (by rw[x.ms];exact S);rw[u1]at n;obtain⟨y,e2,u⟩:=XO W (s:=aHQ) (by have:=c.next;have:=x.hG;omega) aKm n;obtain⟨r,h3,E,i,c3⟩:=u.aP f G;rw[u2]at i;have rl:=R1.len;have R2:Rws (λj=>True) (flat DK) 1 y v marks:=by
   obtain⟨F2,J2,pl2,ae,aa,ab,ag,af,ah,I2,W2,ac,c2⟩:=u;exact R1.ch (aK _) c2 λj _ p=>⟨trivial,J j p⟩
  obtain⟨ii,q,cs,ix,ex,-,-,-,ld,-⟩:=R2.elt S;obtain rfl:cs=DK m0:=ex;have z:=ld y rfl 0 (K m0) rfl;rw[z!]at z;have Z:∀g,bJ 1 v (Y U 0) g=D (.ptr ii q) g:=ix;cases m0 with
  |true=>
   rw[if_pos rfl]at e2 i;rw[aBt]at e2;have ec:((marks.length - 1:Nat):Int)=(marks.length:Int) - 1:=by omega
   rw[ec]at i;simp(disch:=omega)only[vvB,a!,reduceCtorEq,↓reduceIte,jS,lM,oQ,uw,uq,BU,f0,o,w,e2,E,i,Z,z,rl,DZ,A!,decide_true,decide_false];exact DL.ret (qK0)
  |false=>
   rw[if_neg (by simp)]at e2 i;have e2:uh [.ptr pc 0,.ptr ps 0,H aHQ] h1=D (H okX) y:=by rw[e2,aDL];rfl
   simp(disch:=omega)only[vvB,a!,reduceCtorEq,↓reduceIte,jS,lM,oQ,uw,uq,BR,f0,o,w,e2,E,i,Z,z,rl,DZ,A!,decide_true,decide_false];exact DL.ret (qK0)
end
section
variable{h h' g H:Hp}{P F I:Pos->Prop}{ps pl ib:Pos}{A:Acc}{cb:Cap}{fb:Bool}{v vm vl:V}{marks:List Bool}{l:List Em}{n:Nat}{how:Nat}
theorem aKu(h:Hp):bY Ux [(.str [])] 1 [(0,1,(.str [36,100,101,108,101,116,101,100]))] h=D (.slice h.next 0 1 (.kn 1)) (h.new (O (N Ux true) [.str jR])):=(rfl)
theorem ay8(n:Nat):((g! n).map emF).map (·.i)=g! n/\((g! n).map emF).map (·.mark)=i! n false:=by
 refine⟨by rw[C!];exact List.map_id _,?_⟩;rw[C!];apply K!;intro k;rw[h!,List.getElem?_replicate];by_cases a:k<n
 ·rw[n! a,if_pos a];rfl
 ·rw[List.getElem?_eq_none (by simp;omega),if_neg a];rfl
theorem SC(R:Rws P (flat DK) 1 H v marks)(hh:how<256)(hG:Ik.aH<=H.next.nat):∃h',Bf [v,Y .u8 (how:Int)] H=D (K true) h':=by
 have C:=λh=>R.len h;rw[afg,afc]
 suffices T:DL ((aB nC (aB (aB ny (aV (.tmp 23) (aB qo l!) w!)) (aB wM (aB (aB wL (aV (.tmp 30) (aB D8 l!) w!)) (aB wK (aB (aB wJ (bK 0 (dI nG lf))) tailW)))))) (T.set (some (Y .u8 (how:Int))) (b! 1) (T.set (some v) (b! 0) T.nil)) H) by
  obtain⟨r,h',e,rfl⟩:=T;exact⟨h',e⟩
 by_cases h0:marks.length=0
 ·rw[h0]at C;simp(disch:=omega)only[vvB,a!,reduceCtorEq,↓reduceIte,nC,ny,qo,C,O!,decide_true,DZ];exact DL.ret (qK0)
 have e0:((marks.length:Int)=0)=False:=eq_false (by omega);by_cases ae:20<marks.length
 ·have w:((marks.length:Int)>20)=True:=eq_true (by omega);simp(disch:=omega)only[vvB,a!,reduceCtorEq,↓reduceIte,nC,ny,qo,C,e0,w,decide_true,decide_false,DZ];exact DL.ret (qK0)
 have w:((marks.length:Int)>20)=False:=eq_false (by omega);obtain⟨h1,Q,c1,-⟩:=mkW H (O (N Ux true) (times marks.length [.str []]));have B1:vZ Ux 16 [(.str [])] (Y U (marks.length:Int)) (Y U (marks.length:Int)) H=D (.slice H.next 0 marks.length (.kn marks.length)) h1:=by rw[Q];exact aql (by omega)
 have k1:Kn h1 H.next (O (N Ux true) ((i! marks.length ([]:List Nat)).map ji).flatten):=by
  have:((i! marks.length ([]:List Nat)).map ji).flatten=times marks.length [.str []]:=by rw[anp];simp[ji]
  rw[this,Q];exact Kn.new _ _
 have r1:=Kn.rws (c:=ji) (sz:=1) (cp:=.kn marks.length) k1 (λ_=>rfl) (λ_ _ _ _ e=>by cases e;simp);rw[List.length_replicate]at r1;obtain⟨ps,h2,F,pl,ib,cb,fb,vm,vl,I,e2,a2,c2,f2⟩:=aBo r1 (by omega);have n1:=c1.next;have aa:=c1.trans c2;simp(disch:=omega)only[vvB,a!,reduceCtorEq,↓reduceIte,nC,ny,wM,wL,wK,wJ,C,e0,w,decide_true,decide_false,B1,e2,eG];refine Oc.then (dZ (n:=marks.length) (λW fr g=>∃(k:Nat) (F:Pos->Prop) (vl:V) (I:Pos->Prop) (A:Acc) (l:List Em),fr.get (b! 0)=some v/\fr.get (b! 1)=some (Y .u8 (how:Int))/\fr.get (b! 5)=some (X ps 0)/\fr.get (b! 6)=some (Y U (rG (marks.take k):Int))/\fr.get (b! 7)=some (Y U (k:Int))/\k+W=marks.length/\
   dG g F ps A pl ib cb fb vm vl I/\DAcc A l/\l.map (·.i)=g! marks.length/\l.map (·.mark)=yu marks k/\A.clock<=(marks.length:Int)+1+k/\Nw H g/\∀j,F j->H.next.nat<=j.nat)
  (A:=λfr g=>fr.get (b! 0)=some v/\fr.get (b! 1)=some (Y .u8 (how:Int))/\fr.get (b! 5)=some (X ps 0)/\fr.get (b! 6)=some (Y U (rG marks:Int))/\∃(F:Pos->Prop) (vl:V) (I:Pos->Prop) (A:Acc) (l:List Em),Dst g F ps A l marks pl ib cb fb vm vl I (λj=>P j/\j.nat<H.next.nat) v) (B:=λ_ _=>False) (by rw[dW];omega) ?_ ?_) ?_ ?_
 ·have hr:=ay8 marks.length;exact⟨0,F,vl,I,AO marks.length,(g! marks.length).map emF,qK0,qK0,qK0,qK1,qK1,by omega,a2,DAcc.fill (by omega),hr.1,by rw[hr.2,aEk],by show(marks.length:Int)+1<=_;omega,aa,λj q=>by have:=f2 j q;omega⟩
 ·rintro W fr g ⟨k,F,vl,I,A,l,f0,f1,E,G,f7,hk,a,d,b,f,af,c,Z⟩;have ah:l.length=marks.length:=by have:=congrArg o! b;simpa using this
  by_cases hz:W=0
  ·have s:k=marks.length:=by omega
   subst s;simp(disch:=omega)only[vvB,a!,reduceCtorEq,↓reduceIte,nG,wI,f0,f7,C];rw[List.take_length]at G;rw[azk]at f;exact⟨rfl,qK2 f0,qK2 f1,qK2 E,qK2 G,F,vl,I,A,l,⟨a,d,b,f,by omega,R.ch (aK _) c λj hj p=>⟨⟨p,hj⟩,λq=>q⟩,λj p q=>by have:=Z j q;omega,by have:=c.next;omega⟩⟩
  ·have s:k<marks.length:=by omega
   obtain⟨m,S⟩:∃m,marks[k]?=some m:=⟨_,c! s⟩
   obtain⟨ii,q,cs,ix,ex,-,-,-,ld,-⟩:=(R.nw (aK _) c).elt S;obtain rfl:cs=DK m:=ex;have z:=ld g rfl 0 (K m) rfl;rw[z!]at z;have o:=axV S;have ag:rG (marks.take k)<=k:=D! List.countP_le_length (List.length_take_le _ _);cases m with
   |false=>
    rw[if_neg (by simp)]at o;simp(disch:=omega)only[vvB,a!,reduceCtorEq,↓reduceIte,nG,wI,D7,CJ,Ot,f0,G,f7,C,ix,z];exact⟨W - 1,by omega,k+1,F,vl,I,A,l,qK2 f0,qK2 f1,qK2 E,by rw[o];simp only[vvB,a!,reduceCtorEq,↓reduceIte];rfl,qK1,by omega,a,d,b,by rw[f,atD S],by omega,c,Z⟩
   |true=>
    have o:rG (marks.take (k+1))=rG (marks.take k):=o;obtain⟨e,J⟩:∃e,l[k]?=some e:=⟨_,c! (by omega)⟩
    have ab:e.i=k:=by
     have:(l.map (·.i))[k]?=(g! marks.length)[k]?:=by rw[b]
     rw[h!,J,n! s]at this;simpa using this
    have L:e.mark=false:=by
     have:(l.map (·.mark))[k]?=some false:=by rw[f,azl S]
     rw[h!,J]at this;simpa using this
    obtain⟨g2,M,u,-⟩:=mkW g (O (N Ux true) [.str jR]);have B2:=aKu g;rw[<-M]at B2;have k2:Kn g2 g.next (O (N Ux true) ([jR].map ji).flatten):=by rw[M];exact Kn.new _ _
    have r2:Rws (λj=>j=g.next) (flat ji) 1 g2 (.slice g.next 0 1 (.kn 1)) [jR]:=Kn.rws (c:=ji) (l:= [jR]) (cp:=.kn 1) (sz:=1) k2 (λ_=>rfl) (λ_ _ _ _ e=>by cases e;exact F! _);obtain⟨d1,d2,-⟩:=d.find J;have y:(mkE e).keys= []:=by unfold mkE;rw[L];rfl
    have dc:=d.clock;have de:=d.ents;obtain⟨g3,F3,ad,I3,e4,a3,c3,f3⟩:=aAJ (a.nw u) d.small d.logged d1 d2 (d.inn e) r2 (by decide) (by simp) (by rw[y];simp) (by omega) (by omega);have ac:(mkE e).id=(k:Int)+1:=by show(e.i:Int)+1=_;rw[ab]
    rw[ac]at e4;have d3:=d.keys J L (by omega);have ai:=(c.trans u).next;simp(disch:=omega)only[vvB,a!,reduceCtorEq,↓reduceIte,nG,wI,D7,CJ,Ou,f0,E,f7,C,ix,z,B2,e4];refine⟨W - 1,by omega,k+1,F3,ad,I3,ajq A k (mkE e) [jR],l.set k {e with mark:=true,mod:=A.clock+1},qK2 f0,qK2 f1,qK2 E,by rw[o];simp only[vvB,a!,reduceCtorEq,↓reduceIte,G],qK1,by omega,a3,d3,?_,?_,?_,(c.trans u).then c3 λj hj q=>by have:=Z j q;omega,λj q=>(f3 j q).elim (Z j) λl=>by omega⟩
    ·rw[R!,<-b];apply K!;intro t;by_cases ht:k=t
     ·subst ht;rw[u! (by rw[k!];omega),h!,J];rfl
     ·rw[d! ht]
    ·rw[R!,f];exact axO S
    ·show A.clock+1<=_;omega
 ·rintro fr g ⟨f0,f1,E,G,F,vl,I,A,l,x⟩;exact aDX x (by omega) hh f0 f1 E G
 ·intro fr g q;exact q.elim
end
theorem aq8:∀{els:List (List V)},(∀vs∈els,(∃z,vs= [K z])/\vs.length=1)->∃l:List Bool,els=l.map DK
 | [],_=>⟨[],rfl⟩
 |vs::els,h=>by
  obtain⟨⟨z,rfl⟩,-⟩:=h vs (by simp);obtain⟨l,e⟩:=aq8 (els:=els) λvs a=>h vs (List.mem_cons_of_mem _ a);exact⟨z::l,by rw[e];rfl⟩
theorem aDW{z:Int}(h:(Lit.int .u8 z).wf=true):∃a:Nat,z=(a:Int)/\a<256:=by
 have b:0<=z/\z<=255:=by
  unfold Lit.wf at h;simp only[Bool.and_eq_true,decide_eq_true_eq]at h;exact h
 exact⟨z.toNat,by omega,by omega⟩
theorem walkOfImapDrops{H:Type}{g:TypeId×Value->H}{b:Nat->Bool}{f:Bool}(W:Go.World){r:Reach}{s base:Nat}{v0 v1:Value}{w x:DataW H}{I J:List MemPlace}
  (p:Value.okWide p! W r s tBs v0) (j:DataW.Trod g p! W base b f tBs v0 w I) (q:Value.okWide p! W r s 5 v1) (l:DataW.Trod g p! W base b f 5 v1 x J):
  Calls p! 3 #[v0,v1] W λe u=>e=.returned (.bool true)/\Below W.heap.size W u:=by
 obtain⟨a,len,cap,rfl⟩:=okWide_slice I! p;obtain⟨m,G⟩:=j;obtain⟨M,rfl,-,-,L⟩:=open_int Tryz.underlying5 q l;obtain⟨how,rfl,hh⟩:=aDW L;obtain⟨c,v,M',h',els,y,z,B,-,i,-,C⟩:=azd I! (n:=1) kR (by omega) (aD8 Tryz.underlying4) G (Seen.empty aH W);obtain rfl:Value.slice a len cap=c:=by simpa[Value.cells]using y
 obtain⟨marks,rfl⟩:=aq8 i;have E:∃h,Bf [v,Y .u8 (how:Int)] h'=D (K true) h:=by
  rcases C with⟨rfl,rfl,o⟩|⟨rfl,rfl,o⟩|⟨cap,rfl,rfl,t,d⟩
  ·obtain rfl:marks= []:=by simpa using o
   exact SC (Rws.aQ (λ_=>True) _ _ _) hh (by decide)
  ·obtain rfl:marks= []:=by simpa using o
   exact SC (Rws.emp (λ_=>True) _ _ _) hh (by decide)
  ·have k:=Kn.new (h0 aH) (O .ro (marks.map DK).flatten);have R:=Kn.rws (c:=DK) (sz:=1) (cp:=.kn cap) k (λ_=>rfl) (λ_ _ _ _ e=>by cases e;rw[k!]at d;exact d);rw[k!];exact SC R hh (by rw[bD];decide)
 obtain⟨h,e⟩:=E;exact atK (cargs:= [_,_]) (args:= [_,_]) am0 Tryz.func3 kR (c:=codeOf Tryz.f3) kR B ⟨_,_,z,⟨_,[],gB _ .u8 how,rfl,rfl⟩,rfl⟩ e
end Go.Proofs.Im
