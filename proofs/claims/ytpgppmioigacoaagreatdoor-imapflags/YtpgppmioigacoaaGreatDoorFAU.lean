/- Lemmas. No conditions. -/
import Derived.Test.YtpgppmioigacoaaGreatDoorFAT
import Derived.Test.YtpgppmioigacoaaGreatDoorFAR
set_option linter.all false
set_option maxRecDepth 100000
open Go.Vm.Pos renaming of→a!
open List renaming getElem?_eq_some_iff→b!,getElem?_eq_getElem→c!,drop_eq_getElem_cons→e!,mem_of_getElem?→g!,map_cons→i!,mem_append→j!,length_append→k!,append_assoc→l!,length_take→n!,map_nil→o!,length_map→q!,mem_singleton→u!,getElem?_drop→v!,findIdx?_eq_some_iff_getElem→w!,getElem?_map→x!,take_length→B!,length_cons→C!,take_append_of_le_length→D!,getElem?_append_left→G!,filter_eq_self→M!,take_add_one→N!,find?_append→O!,append_nil→Q!,drop_drop→R!,length→S!
open Nat renaming ble_eq_true_of_le→d!,add_zero→p!,le_refl→t!,zero_add→z!,beq_refl→A!,ble→F!,succ_mul→H!,le_trans→I!,le_of_lt→J!,mul_le_mul_right→L!,beq→P!,zero_le→T!,blt_eq→U!
open Go.Proofs.Tryz renaming prog→h!
open Int renaming reduceEq→r!
open Go.Vm.Out renaming nor→y!,ret→E!
open Go.Vm.V renaming int→Y,ptr→X,bool→K,str→H
open Go.IntKind renaming i64→U
open Go.Vm.Ob renaming cells→O
open Go.Vm.Wr renaming rw→N
open Go.Vm.R renaming ok→D
noncomputable section
open Go Go.Vm Go.Proofs Go.Im Go.Proofs.Im Go.Ln
namespace Go.Im
def _root_.Go.Vm.Rws.strs{P:Pos->Prop}{h:Hp}{v:V}{l:List (List Nat)}(r:Rws P (flat dN) 1 h v l):Sl h.next.nat h 1 v l.length (l.map H)/\zn 1 v:=by
 obtain⟨b,a,c,s,k,p⟩:=r;have:b.flatten=l.map H:=by rw[a.flat];exact qo l
 rw[this]at s;exact⟨s,k⟩
abbrev je:List Nat:= [73,78,66,79,88]
def aaX(p:List Nat):List Nat:=if foldM p=foldM je then je else p
def uV(l:List Bx)(p:List Nat):Option Bx:=l.find? λb=>decide (b.name=aaX p)
structure TopB (l:List Bx):Prop where
 few:l.length<=1000
 top:∀b∈l,b.par=0
 name:∀b∈l,b.name.length<=1000000/\∀c∈b.name,c<256
 once:∀(k:Nat) (b:Bx),l[k]?=some b->l.findIdx? (λx=>decide (x.id=b.id))=some k
end Go.Im
namespace Go.Proofs.Im
section
variable{h h' g:Hp}{P:Pos->Prop}{p:Pos}{A:Acc}{v:V}{l:List Bx}
def atz{b:Bx}{p:Pos}{n:Int}{w:Wr}(k:Kn g p (O w [iV n])):yN [.agg (V.ofList (gY b)),X p 0] g=D (K (decide (b.id=n))) (g.new (O (N 55 true) (gY b))):=by
 have e1:=(Kn.new g (O (N 55 true) (gY b))).ld (q:=0) (x:=iV b.id) rfl;have e2:=(k.add (O (N 55 true) (gY b))).ld (q:=0) (x:=iV n) rfl;rw[amy];simp only[vvB,seval,asZ,ajU,ajT,V.cZ,e1,e2];simp only[bV,bQ,vvB,seval,bT]
def aqC(p:Pos)(x:V)(g:Hp):dD kM (.func (.func 301) .nil (.cons (X p 0) .nil)) [x] g=yN [x,X p 0] g:=(rfl)
def aw6(r:Rws P (flat gY) 6 h v l)(hn:l.length<=1000)(n:Int):∃h',KP [v,iV n] h=D (iV (fE (l.findIdx? λb=>decide (b.id=n)))) h'/\Nw h h':=by
 obtain⟨m,a,c,k⟩:=mkW h (O (N 3 true) [iV n]);obtain⟨j,e2,d⟩:=zq (r.nw (aJ _) c) (aJ _) (λb=>decide (b.id=n)) (by omega) (f:=.func (.func 301) .nil (.cons (X h.next 0) .nil)) (λb cs g _ i e _=>by
  rw[show cs=gY b from e,aqC,atz (k.nw i)];exact⟨_,rfl,Nw.new _ _⟩)
 rw[apF];simp only[vvB,seval,aho,aoI,ZC,<-a,e2];exact⟨j,by simp only[bV,bQ,vvB,seval,bT],c.trans d⟩
def atB{E:El (List Nat)}{el:TypeId}{b:Nat}{a:List Nat}(o:gK b E el 1 h v [a]):∃u,uH [v] h=D u h:=by
 have c:=λg=>o.len g;rw[aas]
 suffices T:aV h! [] (λu h'=>h'=h) (Bj (T.set (some v) (a! 0) T.nil) h) by
  obtain⟨u,h',e,rfl⟩:=T;exact⟨u,e⟩
 simp(disch:=omega)only[vvB,seval,Bj,Jr,c,C!,List.length_nil,z!,show((1:Nat):Int)=1 from rfl];refine(dX (n:=0) (λm fr g=>fr.get (a! 2)=some (Y U 0)/\fr.get (a! 3)=some (Y U 0)/\g=h) (A:=λfr g=>g=h) (B:=λ_ _=>False) (by rw[dR];omega) ⟨qK0,qK1,rfl⟩ ?_).out ?_ ?_
 ·rintro m fr g ⟨f2,f3,rfl⟩;simp(disch:=omega)only[vvB,seval,KI,Jq,f2,f3];exact⟨rfl,rfl⟩
 ·rintro fr g rfl;exact aV.nor (qT0) rfl
 ·intro fr g q;exact q.elim
def aGm(r:Rws P (flat gY) 6 h v l)(o:TopB l){k:Nat}{b:Bx}(hb:l[k]?=some b):∃h',Xl [v,iV b.id] h=D (H b.name) h'/\Nw h h':=by
 have Q:=o.once k b hb;have y:=g! hb;have S:=(b!.1 hb).1;obtain⟨f,e1,t⟩:=aw6 r o.few b.id;rw[Q]at e1;simp only[fE]at e1;have r1:=r.nw (aJ _) t;obtain⟨i,q,cs,W,ex,-,hi,-,ld,-⟩:=r1.elt hb;obtain rfl:cs=gY b:=ex;have n1:=t.next;obtain⟨C,a,e2,z,I,n2,-⟩:=(gK.nil h.next.nat (flat dN) 9 1 f).app (bt:=16) (x:=b.name) (cs:=dN b.name) (P0:=λ_=>False) (aJ _) (by omega) rfl rfl (λj _ q=>q.elim) (by simp);have e2:bZ 9 1 16 .aP (.slice f.next 0 1 (.kn 1)) (f.new (O (N 9 true) [H b.name]))=D C a:=e2;have d:Nw f a:=I.mono λ_ _ e=>by cases e
 have E:=ld f rfl 1 (H b.name) rfl;have G:aF (X i (q+2)) a=D (Y U 0) a:=by
  have:=ld a (d.get i hi λq=>q) 2 (iV b.par) rfl;rw[o.top b y]at this;exact this
 have s:=t.trans d;rw[ayf]
 suffices T:aV h! [.tmp 4] (λr h'=>r=H b.name/\Nw h h') (ahp (T.set (some (iV b.id)) (a! 1) (T.set (some v) (a! 0) T.nil)) h) by
  obtain⟨r,h',e,rfl,c⟩:=T;exact⟨h',e,c⟩
 simp only[vvB,seval,ahp,aak,acY];refine Oc.then (dX (n:=0) (λm fr g=>fr.get (a! 0)=some v/\fr.get (a! 1)=some (iV b.id)/\fr.get (a! 5)=some .aP/\g=h) (A:=λfr g=>fr.get (a! 5)=some C/\g=a) (B:=λ_ _=>False) (by rw[dR];omega) ⟨qK0,qK0,qK0,rfl⟩ ?_) ?_ ?_
 ·rintro m fr g ⟨f0,f1,w,rfl⟩;simp(disch:=omega)only[vvB,seval,ak8,ajy,ajx,ajw,ajv,aju,f0,f1,w,e1,WI,r.len,W,E,vV,e2,G];exact⟨rfl,qK0,rfl⟩
 ·rintro fr g ⟨w,rfl⟩;obtain⟨u,L⟩:=atB z;obtain⟨sl,cap⟩:=(z.rws (aJ _)).strs;obtain⟨r4,Z,M,rfl,J⟩:=UF (sep:= [47]) sl cap (t! _) (by simp) (by simp) (by have:=(o.name b y).1;simp[fP];omega) (by simpa using (o.name b y).2) (by simp) (.inl (by simp));simp only[vvB,seval,ajt,ajs,w,L,M];exact aV.ret (r:=H b.name) (qT0) ⟨rfl,s.trans J⟩
 ·intro fr g q;exact q.elim
end
end Go.Proofs.Im
namespace Go.Im
def aLc{α:Type}{f:α->Bool}{l:List α}{k:Nat}{x:α}(c:l[k]?=some x)(a:(l.take k).find? f=none)(d:f x=true):l.find? f=some x:=by
 have e:=(b!.1 c).1;have b:=(b!.1 c).2;have:l.find? f=(l.take k++l.drop k).find? f:=by rw[List.take_append_drop]
 rw[this,O!,a,e! e,b];simp[d]
end Go.Im
namespace Go.Proofs.Im
section
variable{h h' g:Hp}{P F I:Pos->Prop}{ps pl ib p ir:Pos}{A:Acc}{cb:Cap}{fb:Bool}{v vm vl:V}{l:List Bx}
theorem aGn(r:Rws P (flat gY) 6 h v l)(hT:TopB l){p:List Nat}(hp:p.length<1000)(z:∀c∈p,c<256)(ab:p≠ []):
  ∃h',Xm [v,H p] h=D (.tuple (.cons (iV (match uV l p with|some b=>b.id|none=>0)) (.cons (K (uV l p).isSome) .nil))) h'/\Nw h h':=by
 obtain⟨h1,e1,c1⟩:=aqt h (s:=p) (by omega) z;obtain⟨y,e2,c2⟩:=aqt h1 (s:=je) (by decide) (by decide);have f:Nw h y:=Nw.trans c1 c2;obtain⟨q,L⟩:∃q,q=aaX p:=⟨_,rfl⟩
 have ac:q≠ []:=by
  rw[L];unfold aaX;split
  ·simp
  ·exact ab
 have ad:=hT.few;rw[ayg]
 suffices T:aV h! [.tmp 4,.tmp 5] (λr h'=>r=.tuple (.cons (iV (match uV l p with|some b=>b.id|none=>0)) (.cons (K (uV l p).isSome) .nil))/\Nw h h') (Xd (T.set (some (H p)) (a! 1) (T.set (some v) (a! 0) T.nil)) h) by
  obtain⟨r,h',e,rfl,c⟩:=T;exact⟨h',e,c⟩
 have C:uV l p=l.find? λb=>decide (b.name=q):=by rw[L];rfl
 have d:∀fr:F,fr.get (a! 0)=some v->fr.get (a! 1)=some (H q)->aV h! [.tmp 4,.tmp 5] (λr h'=>r=.tuple (.cons (iV (match uV l p with|some b=>b.id|none=>0)) (.cons (K (uV l p).isSome) .nil))/\Nw h h')
   (oC (oC (XQ fr y) (bD 0 (dG ak9 lf))) (aB XT E!)):=by
  intro fr f0 f1;simp only[vvB,seval,XQ,f0,r.len];refine Oc.then (dP (σ:=Unit) (n:=l.length) (pi:=14) (pn:=13) (pc:=15) [0,1,12] (λ_=> [v,H q,v]) (λk _ g=>Nw y g/\(l.take k).find? (λb=>decide (b.name=q))=none)
   (A:=λfr g=>Nw y g/\l.find? (λb=>decide (b.name=q))=none) (B:=λfr g=>∃b,fr.get (a! 4)=some (iV b.id)/\fr.get (a! 5)=some (K true)/\Nw y g/\l.find? (λb=>decide (b.name=q))=some b) (s:=())
   (λfr h _ k e1 e2=>by simp only[vvB,seval,aiy,e1,e2]) (λfr h k _ e1=>by simp(disch:=omega)only[vvB,seval,aCi,e1]) (by decide) (by rw[dR];omega) (qK0) (qK0) (by simp only[Fa,vvB,seval,f0,f1,and_self]) ⟨Nw.refl _,by simp⟩ ?_ ?_) ?_ ?_
  ·intro k _ fr g hk m W fa Z;obtain⟨f0,f1,j,-⟩:=fa;obtain⟨c,a⟩:=Z;obtain⟨x,M⟩:∃x,l[k]?=some x:=⟨_,c! hk⟩
   have rg:=r.nw (aJ _) (f.trans c);obtain⟨i,o,cs,ix,ex,-,-,-,-,ln⟩:=rg.elt M;obtain rfl:cs=gY x:=ex;have G:=ln g rfl;obtain⟨g2,aa,S,k2⟩:=mkW g (O (N 55 true) (gY x));have S2:=mkT 6 [Y U 0,H [],Y U 0,Y U 0,Y U 0,Y U 0] aa;obtain⟨g3,e3,Q⟩:=aGm (rg.nw (aJ _) S) hT M;have L2:=k2.ld (q:=0) (x:=iV x.id) rfl;have L3:=(k2.nw Q).ld (q:=0) (x:=iV x.id) rfl;have E:(q= [])=False:=eq_false ac;by_cases hn:x.name=q
   ·have u:(x.name=q)=True:=eq_true hn;simp only[vvB,seval,XP,XO,ajC,f0,f1,j,m,ix,G,S2,L2,L3,e3,E,u];exact⟨x,qK0,qK0,(c.trans S).trans Q,aLc M a (decide_eq_true hn)⟩
   ·have u:(x.name=q)=False:=eq_false hn;simp only[vvB,seval,XP,XO,f0,f1,j,m,ix,G,S2,L2,e3,E,u];refine⟨qK2 m,qK2 W,(),by simp only[Fa,vvB,seval,f0,f1,j,and_self],(c.trans S).trans Q,?_⟩;rw[Go.Vm.take_snoc M,O!,a];simp[hn]
  ·intro _ fr g fa Z;obtain⟨c,a⟩:=Z;rw[B!]at a;exact⟨c,a⟩
  ·rintro fr g ⟨c,a⟩;simp only[vvB,seval,XT];refine aV.ret (qT0) ⟨?_,f.trans c⟩;rw[C,a];rfl
  ·rintro fr g ⟨b,f4,f5,c,hb⟩;refine aV.ret (by simp only[bQ,vvB,seval,f4,f5,bT]<;>rfl) ⟨?_,f.trans c⟩;rw[C,hb];rfl
 by_cases J:foldM p=foldM je
 ·have t:(foldM p=foldM je)=True:=eq_true J;have w:q=je:=by rw[L];unfold aaX;rw[if_pos J]
  simp only[vvB,seval,Xd,XT,XR,ajE,e1,e2,t];exact d _ (qK0) (by simp only[vvB,seval];rw[w])
 ·have t:(foldM p=foldM je)=False:=eq_false J;have w:q=p:=by rw[L];unfold aaX;rw[if_neg J]
  simp only[vvB,seval,Xd,XT,XR,e1,e2,t];exact d _ (qK0) (by simp only[vvB,seval];rw[w])
def aLA(h:Hp):YJ [H je] h=D (.tuple (.cons (H je) (.cons (Y U 0) .nil))) h:=FP (aLu _ _) h
def Gw{n:Nat}(hn:n<100)(h:Hp):jy [Y U (n:Int)] h=D (H (dZ n)) h:=FP (aqI hn) h
def aqy{n:Int}(h0:0<=n)(hn:n<100)(h:Hp):jy [Y U n] h=D (H (dZ n.toNat)) h:=by
 have:=Gw (n:=n.toNat) (by omega) h;rwa[Int.toNat_of_nonneg h0]at this
def aGx(a:dL h F ps A pl ib cb fb vm vl I)(i:A.Small)(k:TopB A.boxes){w:Wr}{L:List V}(kr:Kn h ir (O w L))(j:L[1]?=some (X ps 0)){b:Bx}(hb:uV A.boxes je=some b):
  ∃h',Xt [X ir 0,H je] h=D (.tuple (.cons (iV b.id) (.cons (iV 0) .nil))) h'/\Nw h h':=by
 have c:=kr.ld j;obtain⟨r,m,e1,r1,d,-⟩:=Tz a i;obtain⟨f,e2,e⟩:=aGn r1 k (p:=je) (by decide) (by decide) (by decide);rw[hb]at e2;simp only[Option.isSome_some]at e2;rw[ays];simp(disch:=omega)only[vvB,seval,as5,akk,akj,aki,akh,akg,akf,aLA,c,e1,e2];exact⟨f,by simp only[bV,bQ,vvB,seval,bT]<;>rfl,d.trans e⟩
def aGy{b:Bx}{p:Pos}{n:Int}{w:Wr}(k:Kn g p (O w [iV n])):P9 [.agg (V.ofList (gY b)),X p 0] g=D (K (decide (b.id=n))) (g.new (O (N 55 true) (gY b))):=by
 have e1:=(Kn.new g (O (N 55 true) (gY b))).ld (q:=0) (x:=iV b.id) rfl;have e2:=(k.add (O (N 55 true) (gY b))).ld (q:=0) (x:=iV n) rfl;rw[ayu];simp only[vvB,seval,asZ,ajU,ajT,V.cZ,e1,e2];simp only[bV,bQ,vvB,seval,bT]
def aDR(p:Pos)(x:V)(g:Hp):dD kM (.func (.func 208) .nil (.cons (X p 0) .nil)) [x] g=P9 [x,X p 0] g:=(rfl)
def aLm(x:V)(h:Hp):BR h! 55 x h=bH 6 x h:=kR
def aJz(a:dL h F ps A pl ib cb fb vm vl I)(G:A.Small)(hT:TopB A.boxes){w:Wr}{L:List V}(kr:Kn h ir (O w L))(hL:L[1]?=some (X ps 0)){k:Nat}{b:Bx}(hb:A.boxes[k]?=some b):
  ∃h',acD [X ir 0,iV b.id] h=D (.agg (V.ofList (gY b))) h'/\Nw h h':=by
 have hk:=hT.once k b hb;obtain⟨m,y,C,k1⟩:=mkW h (O (N 3 true) [iV b.id]);obtain⟨h2,z,E,k2⟩:=mkW m (O (N 55 true) [Y U 0,H [],Y U 0,Y U 0,Y U 0,Y U 0]);have c:=C.trans E;have Q:=(kr.nw c).ld hL;obtain⟨r,h3,e3,M,q,-⟩:=Tz (a.nw c) G;obtain⟨u,t,s⟩:=zq M (aJ _) (λx=>decide (x.id=b.id)) (by have:=G.boxes;omega) (f:=.func (.func 208) .nil (.cons (X h.next 0) .nil)) (λx cs g _ Z e _=>by
  rw[show cs=gY x from e,aDR,aGy (((k1.nw E).nw q).nw Z)];exact⟨_,rfl,Nw.new _ _⟩)
 rw[hk]at t;simp only[fE]at t;obtain⟨i,o,cs,ix,ex,-,-,-,-,ln⟩:=(M.nw (aJ _) s).elt hb;obtain rfl:cs=gY b:=ex;have B:=ln u rfl;have J:=(k2.nw q).nw s;obtain⟨j,d⟩:∃j,j=u.put m.next (some (O (N 55 true) (gY b))):=⟨_,rfl⟩
 have S:aS 6 (X m.next 0) (.agg (V.ofList (gY b))) u=D V.undef j:=by rw[d];exact J.stN rfl rfl
 have k5:Kn j m.next (O (N 55 true) (gY b)):=by rw[d];exact J.put _
 have n1:=C.next;have W:Nw h j:=by rw[d];exact((c.trans q).trans s).put (by omega) _
 rw[azV];simp only[vvB,seval,axT,ao7,ao6,ao5,<-y,<-z,Q,e3,t,ix,B,S];exact⟨j,by simp only[bV,bQ,vvB,seval,aLm,k5.ldN (n:=6) rfl,bT],W⟩
end
end Go.Proofs.Im
namespace Go.Ln
def oI:Wds->List (List Nat)
 | .nil=> []
 | .cons _ t _ r=>t::oI r
def I4:Wds->Bool
 | .nil=>false
 | .cons k _ _ r=>decide (k=3)||I4 r
def drop_zero:∀w:Wds,w.drop 0=w
 | .nil=>rfl
 | .cons _ _ _ _=>rfl
def SX:∀w:Wds,(oI w).length=w.len
 | .nil=>rfl
 | .cons _ _ _ r=>by simp[oI,Wds.len,SX r]
def awj:∀{w:Wds} {k:Nat} {x:Wd},w.get? k=some x->w.drop k=.cons x.kind x.text x.kids (w.drop (k+1))
 | .nil,_,_,e=>by cases e
 | .cons k t ks r,0,x,e=>by cases e;simp[Wds.drop]
 | .cons k t ks r,n+1,x,e=>by simp only[Wds.drop];exact awj (w:=r) e
def awi:∀{w:Wds} {k:Nat},w.len<=k->w.drop k=.nil
 | .nil,0,_=>rfl
 | .nil,k+1,_=>rfl
 | .cons _ _ _ _,0,h=>by simp[Wds.len]at h
 | .cons _ _ _ r,k+1,h=>by simp only[Wds.drop];exact awi (by simp[Wds.len]at h;omega)
end Go.Ln
namespace Go.Vm
def oV(t:TypeId)(z:List V)(h:Hp):fA t z h=D (X h.next 0) (h.new (O (N t true) z)):=(rfl)
def aCP{h:Hp}{i:Pos}{t:TypeId}{f:Bool}{x y z a b c:V}(d:h.get i=some (O (N t f) [x,y,z])):aS 3 (X i 0) (.agg (.cons a (.cons b (.cons c .nil)))) h=D V.undef (h.put i (some (O (N t f) [a,b,c]))):=by
 rw[xB d rfl rfl];rfl
def aDp{h:Hp}{i:Pos}{wr:Wr}{l:List V}{q:Nat}{v:V}(a:h.get i=some (O wr l))(b:l[q]?=some v):aF (X i q) h=D v h:=by rw[ED a,b]
end Go.Vm
namespace Go.Proofs.Im
def afA(t:TypeId)(h:Hp):fA t [Y U 0,H [],.aP] h=D (X h.next 0) (h.new (O (N t true) [Y U 0,H [],.aP])):=(rfl)
def WS.atN{P:Pos->Prop}{h:Hp}{v:V}{ws:Wds}(t:WS P h v ws){k:Nat}{w:Wd}(e:ws.get? k=some w):
  ∃j q vk,(∀h',aX 3 v (Y U (k:Int)) h'=D (X j q) h')/\bH 3 (X j q) h=D (.agg (.cons (Y U w.kind) (.cons (H w.text) (.cons vk .nil)))) h:=by
 obtain⟨cs,o,-,i,x⟩:=t;have d:=Wds.MP e;obtain⟨a,b,vk,c,m⟩:=WAt.get x e;obtain⟨j,q,e1,-,-,e2⟩:=o.atN d;refine⟨j,q,vk,e1,?_⟩;rw[e2 h rfl];obtain⟨l0,x0⟩:=b!.1 a;obtain⟨l1,g⟩:=b!.1 b;obtain⟨f,l⟩:=b!.1 c;rw[e! l0,e! l1,e! f,x0,g,l];rfl
def aGs(w:Wds)(n:Nat)(h:Hp)(r:V)(h':Hp):Prop:=
 Ch (λ_=>False) h h'/\((I4 w=true/\r=.tuple (.cons .aP (.cons (K false) .nil)))\/
  (I4 w=false/\∃v,r=.tuple (.cons v (.cons (K (decide (w.len=n))) .nil))/\Ow 0 h' 9 1 v w.len ((oI w).map H)/\∀j,bI v=some j->h.next.nat<=j.nat))
def avK{P:Pos->Prop}{b:Nat}{h:Hp}{i:Pos}{t:TypeId}{L:List V}{s:List Nat}{vw:V}{w:Wds}{n:Nat}(d:Bd b h i 5 t L s)(h3:L[3]?=some vw)(tw:WS P h vw w)(hl:w.len<=1000000):
  ∃r h',acE [X i 0,Y U (n:Int)] h=D r h'/\aGs w n h r h':=by
 rw[aJS];show aV h! _ (aGs w n h) _;have R3:aF (X i 3) h=D vw h:=aDp d.get h3;simp(disch:=omega)only[vvB,seval,aKk,aCn,adq,aCl,R3,WS.len tw];refine Oc.then (dX (n:=w.len) (λm fr g=>∃(k:Nat) (c:V),fr.get (a! 1)=some (Y U (n:Int))/\fr.get (a! 6)=some c/\fr.get (a! 12)=some vw/\fr.get (a! 13)=some (Y U (w.len:Int))/\fr.get (a! 14)=some (Y U (k:Int))/\
   k+m=w.len/\Ow 0 g 9 1 c k (((oI w).take k).map H)/\(∀j,bI c=some j->h.next.nat<=j.nat)/\I4 w=I4 (w.drop k)/\oI w=(oI w).take k++oI (w.drop k)/\Ch (λ_=>False) h g)
  (A:=λfr g=>∃c,fr.get (a! 1)=some (Y U (n:Int))/\fr.get (a! 6)=some c/\I4 w=false/\Ow 0 g 9 1 c w.len ((oI w).map H)/\(∀j,bI c=some j->h.next.nat<=j.nat)/\Ch (λ_=>False) h g)
  (B:=λfr g=>fr.get (a! 4)=some .aP/\fr.get (a! 5)=some (K false)/\I4 w=true/\Ch (λ_=>False) h g) (by rw[dR];omega) ?_ ?_) ?_ ?_
 ·exact⟨0,.aP,qK0,qK0,qK0,qK0,qK1,by omega,by simpa using Ow.nil 0 h 9 1,λj q=>(by cases q),by rw[drop_zero],by rw[drop_zero];rfl,Ch.refl _ _⟩
 ·rintro m fr g ⟨k,c,f1,G,u,f,v,hk,z,p,y,I,a⟩;by_cases hz:m=0
  ·have Q:k=w.len:=by omega
   subst Q;rw[awi (t! _)]at y;rw[<-SX w,B!,SX w]at z;simp(disch:=omega)only[vvB,seval,aiz,aiy,f,v];exact⟨rfl,c,qK2 f1,qK2 G,y,z,p,a⟩
  ·have S:k<w.len:=by omega
   obtain⟨x,hx⟩:=Wds.aqr S;have aa:WS P g vw w:=tw.ch a λj _ q=>⟨q,λq=>q⟩
   obtain⟨j,q,vk,i1,i2⟩:=WS.atN aa hx;have hd:=awj hx;obtain⟨e,o⟩:∃e,e=(g.new (O (N 149 true) [Y U 0,H [],.aP])).put g.next (some (O (N 149 true) [Y U x.kind,H x.text,vk])):=⟨_,rfl⟩
   have E:Ch (λ_=>False) g e:=by rw[o];exact ail _ _ _
   have w2:e.get g.next=some (O (N 149 true) [Y U x.kind,H x.text,vk]):=by rw[o];exact kJ _ _ _
   have K0:aF (X g.next 0) e=D (Y U x.kind) e:=aDp w2 rfl;have K1:aF (X g.next 1) e=D (H x.text) e:=aDp w2 rfl;rw[hd]at y I;simp only[I4]at y;simp only[oI]at I;have Z:((oI w).take k).length=k:=by rw[n!,SX];omega
   have C:(oI w).take (k+1)=(oI w).take k++ [x.text]:=by
    have:(oI w)[k]?=some x.text:=by
     rw[I,List.getElem?_append_right (by omega),Z,Nat.sub_self];rfl
    rw[N!,this];rfl
   by_cases l:x.kind=3
   ·have J:aF (X g.next 0) e=D (Y U 3) e:=by rw[K0,l]
    simp(disch:=omega)only[vvB,seval,aiz,aiy,aq7,aq6,aCn,u,f,v,i1,i2,afA,aCP (dY _ _),<-o,J,r!];refine⟨qK0,qK0,by rw[y,l];rfl,a.trans E λ_ _ q=>q⟩
   ·have o2:=z.ch E λ_ _ q=>q;obtain⟨v',g3,e3,rfl,o3,c3,n3⟩:=aA1 (bt:=16) (new:= [H x.text]) o2 rfl (by omega);simp(disch:=omega)only[vvB,seval,aiz,aiy,aq7,aq6,aCj,aCi,f1,G,u,f,v,i1,i2,afA,aCP (dY _ _),<-o,K0,K1,l,vV,e3];have M:Ch (λ_=>False) h g3:=by
     have ca:=a.trans E λ_ _ q=>q;exact ca.trans c3 λj hj q=>by have:=p j q;omega
    exact⟨m - 1,by omega,k+1,.slice e.next.succ 0 (k+1) (.un 1),qK2 f1,qK0,qK2 u,qK2 f,qK1,by omega,by rw[C,List.map_append];exact o3,
     λj q=>by cases q;have:=a.next;have:=E.next;rw[Pos.fD];omega,by rw[y,decide_eq_false l,Bool.false_or],by rw[C];rw[l!];exact I,M⟩
 ·rintro fr g ⟨c,f1,G,W,z,p,a⟩;have L0:aZ 2 c g=D (Y U (w.len:Int)) g:=z.sl.length;have hd:decide ((w.len:Int)=(n:Int))=decide (w.len=n):=decide_eq_decide.2 (by omega);simp(disch:=omega)only[vvB,seval,aCh,f1,G,L0,hd];exact aV.ret (qT0) ⟨a,.inr ⟨W,c,rfl,z,p⟩⟩
 ·rintro fr g ⟨f4,f5,hl,a⟩;exact aV.ret (by simp only[bQ,vvB,seval,f4,f5,bT];rfl) ⟨a,.inl ⟨hl,rfl⟩⟩
end Go.Proofs.Im
namespace Go.Im
structure Sn where
 acc:Acc
 inn:Bool
 only:Bool
 cnt:Int
 vw:Option (Int×Int×List (Int×Int×Int))
abbrev anL(k:Int)(t:List Nat)(last bare part:Bool):List V:= [iV k,H t,K last,K bare,K part]
abbrev anV(k:Int)(t:List Nat)(last bare part:Bool):V:=.agg (V.ofList (anL k t last bare part))
abbrev zAn:List V:= [Y U 0,H [],K false,K false,K false]
def aQV(h:Hp):bW zAn [] h=D (anV 0 [] false false false) h:=(rfl)
def aQU(s:List Nat)(h:Hp):bW zAn [(1,1,H s),(3,1,K true)] h=D (anV 0 s false true false) h:=(rfl)
end Go.Im
namespace Go.Proofs.Im
section
variable{bb:Nat}{h h' h0:Hp}{P F I J Z S:Pos->Prop}{ps pl ib p pv ir pc im:Pos}{cb:Cap}{fb uid:Bool}{vm vl vv vw:V}{st a:Sn}{L:List V}{s:List Nat}{w:Wds}
def Ap(x:V)(h:Hp):BR h! tA x h=bH 5 x h:=kR
def alI:List (List Nat×Nat×Nat×Bool):= [
 ([99,97,112,97,98,105,108,105,116,121],57,0,false),
 ([110,111,111,112],58,0,false),
 ([108,111,103,111,117,116],59,0,false),
 ([108,111,103,105,110],60,1,false),
 ([115,101,108,101,99,116],61,2,false),
 ([101,120,97,109,105,110,101],62,2,false),
 ([99,114,101,97,116,101],63,2,false),
 ([100,101,108,101,116,101],64,2,false),
 ([114,101,110,97,109,101],65,2,false),
 ([108,105,115,116],66,2,false),
 ([115,116,97,116,117,115],67,2,false),
 ([97,112,112,101,110,100],68,2,false),
 ([99,104,101,99,107],58,3,false),
 ([99,108,111,115,101],69,3,false),
 ([101,120,112,117,110,103,101],70,3,true),
 ([115,101,97,114,99,104],71,3,true),
 ([102,101,116,99,104],72,3,true),
 ([115,116,111,114,101],73,3,true),
 ([99,111,112,121],74,3,true),
 ([109,111,118,101],75,3,true)]
def aID(pc:Pos)(c:Nat×Nat×Bool):V:=.agg (.cons (.func (.func c.1) (.cons (X pc 0) .nil) .nil) (.cons (Y U (c.2.1:Int)) (.cons (K c.2.2) .nil)))
def gX(pc:Pos):List (V×V):=alI.map λc=>(H c.1,aID pc c.2)
def VwO(h:Hp)(J:Pos->Prop)(vv:V):Option (Int×Int×List (Int×Int×Int))->Prop
 |none=>vv=.dn/\∀j,¬J j
 |some x=>∃pv vw m,vv=X pv 0/\VwK h J pv x.1 x.2.1 m vw/\m.map mgK=x.2.2
def VwO.ch{o:Option (Int×Int×List (Int×Int×Int))}(x:VwO h J vv o)(c:Ch S h h')(d:∀j,J j->¬S j):VwO h' J vv o:=by
 cases o with
 |none=>exact x
 |some o=>obtain⟨pv,vw,m,e,k,b⟩:=x;exact⟨pv,vw,m,e,k.ch c d,b⟩
def VwO.lt{o:Option (Int×Int×List (Int×Int×Int))}(x:VwO h J vv o):∀j,J j->j.nat<h.next.nat:=by
 cases o with
 |none=>exact λj q=>(x.2 j q).elim
 |some o=>obtain⟨pv,vw,m,e,k,b⟩:=x;exact k.lt
def VwO.cell{o:Option (Int×Int×List (Int×Int×Int))}(x:VwO h J vv o):vv.cells= [vv]/\ig vv=true:=by
 cases o with
 |none=>rw[x.1];exact⟨rfl,rfl⟩
 |some o=>obtain⟨pv,vw,m,rfl,k,b⟩:=x;exact⟨rfl,rfl⟩
abbrev Ft(F J:Pos->Prop)(pc im:Pos):Pos->Prop:=λj=>F j\/J j\/j=pc\/j=im
structure World (h:Hp) (pc im ps:Pos) (st:Sn) (F J:Pos->Prop) (pl ib:Pos) (cb:Cap) (fb:Bool) (vm vl vv:V) (I:Pos->Prop):Prop where
 acc:dL h F ps st.acc pl ib cb fb vm vl I
 con:Kn h pc (O (N tCn true) [K st.inn,vv,K st.only,iV st.cnt,.map im])
 map:Kn h im (.map (gX pc))
 view:VwO h J vv st.vw
 ne:pc≠im
 fj:∀j,F j->¬J j/\j≠pc/\j≠im
 jn:∀j,J j->j≠pc/\j≠im
def World.ch(x:World h pc im ps st F J pl ib cb fb vm vl vv I)(c:Ch S h h')(b:∀j,Ft F J pc im j->¬S j):World h' pc im ps st F J pl ib cb fb vm vl vv I where
 acc:=x.acc.ch c λj f=>b j (.inl f)
 con:=x.con.ch c (b _ (.inr (.inr (.inl rfl))))
 map:=x.map.ch c (b _ (.inr (.inr (.inr rfl))))
 view:=x.view.ch c λj f=>b j (.inr (.inl f))
 ne:=x.ne
 fj:=x.fj
 jn:=x.jn
def World.lt(x:World h pc im ps st F J pl ib cb fb vm vl vv I):∀j,Ft F J pc im j->j.nat<h.next.nat:=λj q=>by
 rcases q with q|q|rfl|rfl
 ·exact x.acc.lt j q
 ·exact x.view.lt j q
 ·exact x.con.2
 ·exact x.map.2
def World.anG(x:World h pc im ps st F J pl ib cb fb vm vl vv I){d:Pos->Prop}{b:V}(g:a.acc=st.acc)(i:VwO h d b a.vw)(hj:∀j,d j->¬F j/\j≠pc/\j≠im):
  World (h.put pc (some (O (N tCn true) [K a.inn,b,K a.only,iV a.cnt,.map im]))) pc im ps a F d pl ib cb fb vm vl b I:=by
 have c:Ch (λj=>j=pc) h (h.put pc (some (O (N tCn true) [K a.inn,b,K a.only,iV a.cnt,.map im]))):=Ch.put _ _ rfl;refine⟨?_,x.con.put _,x.map.ch c λe=>x.ne e.symm,i.ch c λj q=>(hj j q).2.1,x.ne,λj f=>⟨λq=>(hj j q).1 f,(x.fj j f).2⟩,λj q=>(hj j q).2⟩;rw[g];exact x.acc.ch c λj f=>(x.fj j f).2.1
structure Rq (bb:Nat) (h0:Hp) (Z:Pos->Prop) (h:Hp) (pc im ps ir:Pos) (uid:Bool) (w:Wds) (s:List Nat) (st:Sn) (L:List V) (vw:V) (P F J:Pos->Prop) (pl ib:Pos) (cb:Cap) (fb:Bool) (vm vl vv:V) (I:Pos->Prop):Prop where
 bd:Bd bb h ir 5 143 L s
 hbb:bb<=h0.next.nat
 ob:∀j,OfB ir 5 L j->Z j\/h0.next.nat<=j.nat
 l1:L[1]?=some (X ps 0)
 l3:L[3]?=some vw
 l4:L[4]?=some (K uid)
 l0:L[0]?=some (X pc 0)
 ws:WS P h vw w
 wd:World h pc im ps st F J pl ib cb fb vm vl vv I
 dis:∀j,OfB ir 5 L j->¬Ft F J pc im j
 old:∀j,P j->j.nat<bb/\¬Z j
 foot:∀j,Ft F J pc im j->Z j\/h0.next.nat<=j.nat
 chz:Ch Z h0 h
def DF(bb:Nat)(h0:Hp)(Z:Pos->Prop)(vw:V)(P:Pos->Prop)(h:Hp)(pc im ps ir:Pos)(uid:Bool)(w:Wds)(s:List Nat)(st:Sn):Prop:=
 ∃L F J pl ib cb fb vm vl vv I,Rq bb h0 Z h pc im ps ir uid w s st L vw P F J pl ib cb fb vm vl vv I
def Rq.mk'(q:Rq bb h0 Z h pc im ps ir uid w s st L vw P F J pl ib cb fb vm vl vv I):DF bb h0 Z vw P h pc im ps ir uid w s st:=⟨_,_,_,_,_,_,_,_,_,_,_,q⟩
def Rq.nw(q:Rq bb h0 Z h pc im ps ir uid w s st L vw P F J pl ib cb fb vm vl vv I)(c:Nw h h'):Rq bb h0 Z h' pc im ps ir uid w s st L vw P F J pl ib cb fb vm vl vv I where
 bd:=q.bd.ch c λ_ _ _ q=>q
 l0:=q.l0
 l1:=q.l1
 l3:=q.l3
 l4:=q.l4
 ws:=q.ws.ch c λj _ q=>⟨q,λq=>q⟩
 wd:=q.wd.ch c λ_ _ q=>q
 dis:=q.dis
 old:=q.old
 hbb:=q.hbb
 ob:=q.ob
 foot:=q.foot
 chz:=q.chz.nw c
def Rq.kr(q:Rq bb h0 Z h pc im ps ir uid w s st L vw P F J pl ib cb fb vm vl vv I):Kn h ir (O (N 143 true) L):=⟨q.bd.get,q.bd.hi⟩
def Rq.turn(q:Rq bb h0 Z h pc im ps ir uid w s st L vw P F J pl ib cb fb vm vl vv I){n r v:Pos->Prop}{g f:Pos}{b:Cap}{d:Bool}{k i m:V}(u:World h' pc im ps a n r g f b d k i m v)(c:Ch S h h')
  (t:∀j,S j->Ft F J pc im j) (x:∀j,Ft n r pc im j->Ft F J pc im j\/h.next.nat<=j.nat):Rq bb h0 Z h' pc im ps ir uid w s a L vw P n r g f b d k i m v where
 bd:=q.bd.chO c λj o e=>q.dis j o (t j e)
 l0:=q.l0
 l1:=q.l1
 l3:=q.l3
 l4:=q.l4
 ws:=q.ws.ch c λj _ p=>⟨p,λe=>by
  have:=q.old j p;rcases q.foot j (t j e) with z|z
  ·exact this.2 z
  ·have:=q.hbb;omega⟩
 wd:=u
 dis:=λj o e=>(x j e).elim (q.dis j o) λl=>by have:=(o.from q.bd _).2;omega
 old:=q.old
 hbb:=q.hbb
 ob:=q.ob
 foot:=λj e=>(x j e).elim (q.foot j) λl=>.inr (I! q.chz.next l)
 chz:=q.chz.trans c λj hj e=>(q.foot j (t j e)).resolve_right (by omega)
def Rq.say(q:Rq bb h0 Z h pc im ps ir uid w s st L vw P F J pl ib cb fb vm vl vv I){el:TypeId}(l:List (List Nat)){n:Nat}(hn:l.length=n)(hl:n<=100)(m:fP l<=100000000)(hb:∀t∈l,∀c∈t,c<256)(hj:n<=1\/dH [32] l≠ [])(k:s.length+(dH [32] l).length+2<=1000000000):
  ∃r h' d,uM [X ir 0,.slice h.next 0 n (.kn n)] (h.new (O (N el true) (l.map H)))=D r h'/\Rq bb h0 Z h' pc im ps ir uid w (s++(dH [32] l++ [13,10])) st d vw P F J pl ib cb fb vm vl vv I/\Stp (OfB ir 5 L) h (OfB ir 5 d) h':=by
 obtain⟨r,h',d,e,i,b,g,u⟩:=aAc (el:=el) q.bd l hn hl m hb hj k;refine⟨r,h',d,e,⟨i,q.hbb,λj o=>(b.sub j o).elim (q.ob j) λl=>.inr (I! q.chz.next l),by rw[g 1 (by omega) (by omega)];exact q.l1,by rw[g 3 (by omega) (by omega)];exact q.l3,by rw[g 4 (by omega) (by omega)];exact q.l4,by rw[g 0 (by omega) (by omega)];exact q.l0,?_,q.wd.ch b.ch λj f o=>q.dis j o f,?_,q.old,q.foot,?_⟩,b⟩
 ·exact q.ws.ch b.ch λj _ p=>⟨p,λo=>by have:=(q.old j p).1;have:=(o.from q.bd _).1;omega⟩
 ·intro j o f;rcases b.sub j o with o|o
  ·exact q.dis j o f
  ·have:=q.wd.lt j f;omega
 ·exact q.chz.trans b.ch λj hj o=>(q.ob j o).resolve_right (by omega)
def Rq.aEM(q:Rq bb h0 Z h pc im ps ir uid w s st L vw P F J pl ib cb fb vm vl vv I):Rq bb h (λj=>Ft F J pc im j\/OfB ir 5 L j) h pc im ps ir uid w s st L vw P F J pl ib cb fb vm vl vv I where
 bd:=q.bd
 hbb:=I! q.hbb q.chz.next
 ob:=λj o=>.inl (.inr o)
 l0:=q.l0
 l1:=q.l1
 l3:=q.l3
 l4:=q.l4
 ws:=q.ws
 wd:=q.wd
 dis:=q.dis
 old:=λj p=>⟨(q.old j p).1,λe=>e.elim (λf=>(q.foot j f).elim (q.old j p).2 λl=>by have:=(q.old j p).1;have:=q.hbb;omega) λo=>by have:=(q.old j p).1;have:=(o.from q.bd _).1;omega⟩
 foot:=λj f=>.inl (.inl f)
 chz:=Ch.refl _ _
def Rq.comp(q:Rq bb h0 Z h pc im ps ir uid w s st L vw P F J pl ib cb fb vm vl vv I){g:Hp}{b:Bool}{u:Wds}{s2:List Nat}{st2:Sn}(r:DF bb h (λj=>Ft F J pc im j\/OfB ir 5 L j) vw P g pc im ps ir b u s2 st2):
  DF bb h0 Z vw P g pc im ps ir b u s2 st2/\Ch (λj=>Ft F J pc im j\/OfB ir 5 L j) h g:=by
 obtain⟨z,v,y,l,k,c,d,n,m,t,x,r⟩:=r;have i:∀j,(Ft F J pc im j\/OfB ir 5 L j)\/h.next.nat<=j.nat->Z j\/h0.next.nat<=j.nat:=λj e=>by
  rcases e with(e|e)|e
  ·exact q.foot j e
  ·exact q.ob j e
  ·have:=q.chz.next;exact .inr (by omega)
 exact⟨⟨z,v,y,l,k,c,d,n,m,t,x,
  {bd:=r.bd
   hbb:=q.hbb
   ob:=λj o=>i j (r.ob j o)
   l0:=r.l0
   l1:=r.l1
   l3:=r.l3
   l4:=r.l4
   ws:=r.ws
   wd:=r.wd
   dis:=r.dis
   old:=q.old
   foot:=λj f=>i j (r.foot j f)
   chz:=q.chz.trans r.chz λj hj e=>(i j (.inl e)).resolve_right (by omega)}⟩,r.chz⟩
end
end Go.Proofs.Im
namespace Go.Im
def Y3(t:TypeId)(a b c:List Nat)(h:Hp):bU t [H [],H [],H []] 3 [(0,1,H a),(1,1,H b),(2,1,H c)] h=D (.slice h.next 0 3 (.kn 3)) (h.new (O (N t true) [H a,H b,H c])):=(rfl)
def kQ{n:Nat}(hn:n<100):(dZ n).length<=2/\(∀c∈dZ n,c<256)/\dZ n≠ []:=by
 unfold dZ;split
 ·rename_i h;have:n<10:=by simpa[U!]using h
  exact⟨by simp,by simp;omega,by simp⟩
 ·exact⟨by simp,by simp;omega,by simp⟩
def lineS(l:List (List Nat)):List Nat:=dH [32] l++ [13,10]
abbrev av9:List Nat:= [42,32,70,76,65,71,83,32,40,92,65,110,115,119,101,114,101,100,32,92,70,108,97,103,103,101,100,32,92,68,101,108,101,116,101,100,32,92,83,101,101,110,32,92,68,114,97,102,116,41]
abbrev aim:List Nat:= [69,88,73,83,84,83]
abbrev apZ:List Nat:= [42,32,48,32,82,69,67,69,78,84]
abbrev afa:List Nat:= [42,32,79,75,32,91,85,73,68,86,65,76,73,68,73,84,89,32]
abbrev ani:List Nat:= [42,32,79,75,32,91,85,73,68,78,69,88,84,32]
abbrev avM:List Nat:= [42,32,79,75,32,91,72,73,71,72,69,83,84,77,79,68,83,69,81,32]
abbrev roS:List Nat:= [82,69,65,68,45,79,78,76,89]
abbrev rwS:List Nat:= [82,69,65,68,45,87,82,73,84,69]
def qJ(n:Nat)(valid next clock:Int):List Nat:=
 lineS [av9]++(lineS [[42],dZ n,aim]++(lineS [apZ]++(lineS [afa++dZ valid.toNat++ [93]]++(lineS [ani++dZ next.toNat++ [93]]++lineS [avM++dZ clock.toNat++ [93]]))))
def fC(A:Acc)(box:Int):Int×Int×List (Int×Int×Int):=(box,afN (Wn A.mails box),(Wn A.mails box).map thK)
structure CanBox (A:Acc) (k:Nat) (b:Bx):Prop where
 small:A.Small
 top:TopB A.boxes
 at_:A.boxes[k]?=some b
 named:uV A.boxes je=some b
 sorted:(Wn A.mails b.id).Pairwise λx y=>x.1<y.1
 few:(Wn A.mails b.id).length<50
 valid:0<=b.valid/\b.valid<100
 next:0<=b.next/\b.next<100
 clock:A.clock<100
def CanBox.has{A:Acc}{k:Nat}{b:Bx}(c:CanBox A k b):(A.boxes.any λx=>decide (x.id=b.id))=true:=
 List.any_eq_true.2 ⟨b,g! c.at_,decide_eq_true rfl⟩
end Go.Im
namespace Go.Proofs.Im
section
variable{h h' g h0:Hp}{P F I J Z S:Pos->Prop}{ps pl ib p pv ir pc im a0:Pos}{cb:Cap}{fb uid only:Bool}{v vm vl vv vw:V}{st:Sn}{L:List V}{s:List Nat}{w:Wds}{o:Ob}{k:Nat}{b:Bx}{bb:Nat}
def keepA{L a:List V}(c:Stp (OfB ir 5 L) h (OfB ir 5 a) h')(d:Kn h a0 o)(e:¬OfB ir 5 L a0):Kn h' a0 o/\¬OfB ir 5 a a0:=
 ⟨d.ch c.ch e,λo=>(c.sub _ o).elim e λl=>by have:=d.2;omega⟩
def Rq.ah0(q:Rq bb h0 Z h pc im ps ir uid w s st L vw P F J pl ib cb fb vm vl vv I)(c:Ch (λj=>j=a0) h h')(d:¬OfB ir 5 L a0)(i:¬Ft F J pc im a0)(hb:h0.next.nat<=a0.nat):Rq bb h0 Z h' pc im ps ir uid w s st L vw P F J pl ib cb fb vm vl vv I where
 bd:=q.bd.chO c λj o e=>d (e▸o)
 l0:=q.l0
 l1:=q.l1
 l3:=q.l3
 l4:=q.l4
 ws:=q.ws.ch c λj _ p=>⟨p,λe=>by have a:=(q.old j p).1;have l:=q.hbb;rw[e]at a;omega⟩
 wd:=q.wd.ch c λj f e=>i (e▸f)
 dis:=q.dis
 old:=q.old
 hbb:=q.hbb
 ob:=q.ob
 foot:=q.foot
 chz:=q.chz.trans c λj hj e=>by rw[e]at hj;omega
def aHm(q:Rq bb h0 Z h pc im ps ir uid w s st L vw P F J pl ib cb fb vm vl vv I)(only:Bool)(bo:w.len=1)(cd:oI w= [je])(cc:I4 w=false)(C:CanBox st.acc k b)(cA:s.length<=100000):
  ∃h',FC [X pc 0,X ir 0,K only] h=D (anV 0 (if only=true then roS else rwS) false true false) h'/\
   DF bb h0 Z vw P h' pc im ps ir uid w (s++qJ (Wn st.acc.mails b.id).length b.valid b.next st.acc.clock) {st with only:=only,vw:=some (fC st.acc b.id)}:=by
 obtain⟨h1,bj,c1,k1⟩:=mkW h (O (N tA true) zAn);have q1:=q.nw c1;have cn:¬OfB ir 5 L h.next:=λo=>by have:=(o.from q.bd _).2;omega
 have aM:¬Ft F J pc im h.next:=λo=>by have:=q.wd.lt _ o;omega
 have e2:=avK (n:=1) q1.bd q1.l3 q1.ws (by omega);obtain⟨r2,h2,e2,c2,hN⟩:=e2;have bg:acE [X ir 0,Y U 1] h1=D r2 h2:=e2;obtain⟨v,rfl,ov,aD⟩:∃v,r2=.tuple (.cons v (.cons (K true) .nil))/\Ow 0 h2 9 1 v 1 ([je].map H)/\∀j,bI v=some j->h1.next.nat<=j.nat:=by
  rcases hN with⟨hL,-⟩|⟨-,v,rfl,ov,aD⟩
  ·rw[cc]at hL;cases hL
  ·rw[bo,cd]at ov;exact⟨v,by rw[decide_eq_true bo],ov,aD⟩
 obtain⟨iv,fv,hv,kv,cR⟩:∃iv fv,v=.slice iv 0 1 (.un 1)/\Kn h2 iv (O (N 9 fv) [H je])/\h1.next.nat<=iv.nat:=by
  rcases ov.is with⟨h0,_⟩|⟨i,e,hb,hi,f,hg⟩
  ·omega
  ·exact⟨i,f,e,⟨hg,hi⟩,aD i (by rw[e];rfl)⟩
 have ix:∀g,aX 1 v (Y U 0) g=D (X iv 0) g:=λg=>by rw[hv];rfl
 have ao:Nw h1 h2:=c2;have q2:=q1.nw ao;have k2:=k1.nw ao;have n1:=c1.next;have n2:=ao.next;have aE:=q.wd.con.2;have cQ:=q.wd.map.2;obtain⟨d,z⟩:∃d,d=({st with only:=false,vw:=none}:Sn):=⟨_,rfl⟩
 have S3:=q2.wd.con.st (q:=1) (y:=.dn) ⟨rfl,rfl⟩ (by simp);have be:aS 1 (X pc 1) .dn h2=D V.undef (h2.put pc (some (O (N tCn true) [K st.inn,.dn,K st.only,iV st.cnt,.map im]))):=S3;obtain⟨h4,ay⟩:∃h4,h4=h2.put pc (some (O (N tCn true) [K d.inn,.dn,K d.only,iV d.cnt,.map im])):=⟨_,rfl⟩
 have S4:aS 1 (X pc 2) (K false) (h2.put pc (some (O (N tCn true) [K st.inn,.dn,K st.only,iV st.cnt,.map im])))=D V.undef h4:=by
  rw[(q2.wd.con.put (O (N tCn true) [K st.inn,.dn,K st.only,iV st.cnt,.map im])).st (q:=2) (y:=K false) ⟨rfl,rfl⟩ (by simp),ap0,ay,z];rfl
 have w4:World h4 pc im ps d F (λ_=>False) pl ib cb fb vm vl .dn I:=by
  rw[ay];exact q2.wd.anG (by rw[z]) (by rw[z];exact⟨rfl,λ_ q=>q⟩) λ_ q=>q.elim
 have c4:Ch (λj=>j=pc) h2 h4:=by rw[ay];exact Ch.put _ _ rfl
 have q4:=q2.turn w4 c4 (λj e=>.inr (.inr (.inl e))) λj f=>by
  rcases f with f|f|f|f
  ·exact .inl (.inl f)
  ·exact f.elim
  ·exact .inl (.inr (.inr (.inl f)))
  ·exact .inl (.inr (.inr (.inr f)))
 have n4:=c4.next;have k4:=k2.ch c4 λe=>by rw[<-e]at aE;omega
 have cl:=kv.ch c4 λe=>by rw[<-e]at aE;omega
 have a:d.acc=st.acc:=by rw[z]
 have V4:=cl.ld (q:=0) (x:=H je) rfl;have R1:∀{h:Hp} {s:List Nat} {st:Sn} {L:List V} {F J I:Pos->Prop} {pl ib:Pos} {cb:Cap} {fb:Bool} {vm vl vv:V},Rq bb h0 Z h pc im ps ir uid w s st L vw P F J pl ib cb fb vm vl vv I->aF (X ir 1) h=D (X ps 0) h:=λq=>q.kr.ld q.l1;obtain⟨h5,e5,c5⟩:=aGx q4.wd.acc (by rw[a];exact C.small) (by rw[a];exact C.top) q4.kr q4.l1 (by rw[a];exact C.named);have q5:=q4.nw c5;have k5:=k4.nw c5;have n5:=c5.next;obtain⟨pv,h6,cy,l6,e6,vg,c6,bl⟩:=aIV q5.wd.acc (by rw[a];exact C.small) (box:=b.id) (by rw[a];exact C.sorted) (by rw[a];exact C.few) (by rw[a];exact C.has);rw[a]at vg bl;have n6:=c6.next;obtain⟨E,r⟩:∃E,E=({st with only:=only,vw:=some (fC st.acc b.id)}:Sn):=⟨_,rfl⟩
 have w6:=q5.wd.ch c6 λ_ _ q=>q;have S7:aS 1 (X pc 1) (X pv 0) h6=D V.undef (h6.put pc (some (O (N tCn true) [K d.inn,X pv 0,K d.only,iV d.cnt,.map im]))):=w6.con.st (q:=1) (y:=X pv 0) ⟨rfl,rfl⟩ (by simp);obtain⟨h8,az⟩:∃h8,h8=h6.put pc (some (O (N tCn true) [K E.inn,X pv 0,K E.only,iV E.cnt,.map im])):=⟨_,rfl⟩
 have S8:aS 1 (X pc 2) (K only) (h6.put pc (some (O (N tCn true) [K d.inn,X pv 0,K d.only,iV d.cnt,.map im])))=D V.undef h8:=by
  rw[(w6.con.put (O (N tCn true) [K d.inn,X pv 0,K d.only,iV d.cnt,.map im])).st (q:=2) (y:=K only) ⟨rfl,rfl⟩ (by simp),ap0,az,r,z];rfl
 have ca:=vg.vwr;have w8:World h8 pc im ps E F (λj=>h5.next.nat<=j.nat/\j.nat<h6.next.nat) pl ib cb fb vm vl (X pv 0) I:=by
  rw[az];exact w6.anG (by rw[r,a]) (by rw[r];exact⟨pv,cy,l6,rfl,ca,bl⟩) λj q=>⟨λf=>by have:=q5.wd.acc.lt j f;omega,λe=>by rw[e]at q;omega,λe=>by rw[e]at q;omega⟩
 have ap:Ch (λj=>j=pc) h5 h8:=by rw[az];exact c6.ch.trans (Ch.put (S:=λj=>j=pc) _ _ rfl) λ_ _ q=>q
 have q8:=q5.turn w8 ap (λj e=>.inr (.inr (.inl e))) λj f=>by
  rcases f with f|f|f|f
  ·exact .inl (.inl f)
  ·exact .inr f.1
  ·exact .inl (.inr (.inr (.inl f)))
  ·exact .inl (.inr (.inr (.inr f)))
 have k8:=k5.ch ap λe=>by rw[<-e]at aE;omega
 have u:E.acc=st.acc:=by rw[r]
 have n8:=ap.next;obtain⟨h9,e9,c9⟩:=aJz q8.wd.acc (by rw[u];exact C.small) (by rw[u];exact C.top) q8.kr q8.l1 (by rw[u];exact C.at_);obtain⟨cJ,bk,al,bq⟩:=mkW h9 (O (N 55 true) (gY b));have bc:=mkT 6 [Y U 0,H [],Y U 0,Y U 0,Y U 0,Y U 0] bk;have cr:=(q8.nw c9).nw al;have ce:=(k8.nw c9).nw al;have n9:=c9.next;have cS:=al.next;have bB:¬OfB ir 5 L h9.next:=λo=>by have:=(o.from (q8.nw c9).bd _).2;omega
 obtain⟨cV,cK,cD,aq,aR,bO⟩:=cr.say (el:=9) [av9] (n:=1) rfl (by omega) (by decide) (by decide) (.inl (by omega)) (by simp[dH];omega);simp only[i!,o!]at aq;obtain⟨cf,bu⟩:=keepA bO ce cn;obtain⟨br,bE⟩:=keepA bO bq bB;have aa:=aR.wd.view;rw[r]at aa;obtain⟨cT,cC,cm,b9,b0,bm⟩:=aa;cases b9;have ba:=aR.wd.con.ld (q:=1) (x:=X pv 0) rfl;have b8:cm.length=(Wn st.acc.mails b.id).length:=by have:=congrArg S! bm;simpa[fC]using this
 have cz:=C.few;obtain⟨cU,b6,bf,co,am⟩:=af0 b0 (by omega);have a6:=Gw (n:=(Wn st.acc.mails b.id).length) (by omega);have aL:=co.len b6;rw[q!,b8]at aL;have cs:=aR.nw am;have b2:=kQ (n:=(Wn st.acc.mails b.id).length) (by omega);obtain⟨cW,cL,cE,ar,ct,bR⟩:=cs.say (el:=9) [[42],dZ (Wn st.acc.mails b.id).length,aim] (n:=3) rfl (by omega) (by simp[fP];omega) (by
  intro t G;simp at G;rcases G with rfl|rfl|rfl
  ·decide
  ·exact b2.2.1
  ·decide) (.inr (by simp[dH])) (by simp[dH];omega)
 simp only[i!,o!]at ar;obtain⟨cg,bv⟩:=keepA bR (cf.nw am) bu;obtain⟨bs,bL⟩:=keepA bR (br.nw am) bE;obtain⟨cX,cM,cF,au,cu,bS⟩:=ct.say (el:=9) [apZ] (n:=1) rfl (by omega) (by decide) (by decide) (.inl (by omega)) (by simp[dH];omega);simp only[i!,o!]at au;obtain⟨ci,bw⟩:=keepA bS cg bv;obtain⟨ai,bM⟩:=keepA bS bs bL;have ah:=C.valid;have bn:=C.next;have b7:=C.clock;have bi:=C.small.clock;have a7:=aqy ah.1 ah.2;have a4:=ai.ld (q:=3) (x:=iV b.valid) rfl;have b3:=kQ (n:=b.valid.toNat) (by omega);have Sa:∀(x y:List Nat) (g:Hp),x.length+y.length<1000->aH .add .none (H x) (H y) g=D (H (x++y)) g:=λx y g hl=>dw (by omega);have a1:=λg=>Sa afa (dZ b.valid.toNat) g (by simp;omega);have ae:=λg=>Sa (afa++dZ b.valid.toNat) [93] g (by simp;omega);obtain⟨cY,cN,cG,av,cv,bX⟩:=cu.say (el:=9) [afa++dZ b.valid.toNat++ [93]] (n:=1) rfl (by omega) (by simp[fP];omega) (by
  intro t G;simp only[u!]at G;subst G;intro c m;rw[j!,j!]at m;rcases m with(m|m)|m
  ·revert c;decide
  ·exact b3.2.1 c m
  ·revert c;decide) (.inl (by omega)) (by simp[dH];omega)
 simp only[i!,o!]at av;obtain⟨cj,bx⟩:=keepA bX ci bw;obtain⟨bt,cB⟩:=keepA bX ai bM;have a8:=aqy bn.1 bn.2;have a5:=bt.ld (q:=4) (x:=iV b.next) rfl;have b4:=kQ (n:=b.next.toNat) (by omega);have a2:=λg=>Sa ani (dZ b.next.toNat) g (by simp;omega);have af:=λg=>Sa (ani++dZ b.next.toNat) [93] g (by simp;omega);obtain⟨c0,cP,cH,aw,ad,cp⟩:=cv.say (el:=9) [ani++dZ b.next.toNat++ [93]] (n:=1) rfl (by omega) (by simp[fP];omega) (by
  intro t G;simp only[u!]at G;subst G;intro c m;rw[j!,j!]at m;rcases m with(m|m)|m
  ·revert c;decide
  ·exact b4.2.1 c m
  ·revert c;decide) (.inl (by omega)) (by simp[dH];omega)
 simp only[i!,o!]at aw;obtain⟨ck,bz⟩:=keepA cp cj bx;have a9:=aqy bi.1 b7;have ak:=abx ad.wd.acc;rw[u]at ak;have b5:=kQ (n:=st.acc.clock.toNat) (by omega);have a3:=λg=>Sa avM (dZ st.acc.clock.toNat) g (by simp;omega);have ag:=λg=>Sa (avM++dZ st.acc.clock.toNat) [93] g (by simp;omega);obtain⟨c3,B,cI,ax,cw,cq⟩:=ad.say (el:=9) [avM++dZ st.acc.clock.toNat++ [93]] (n:=1) rfl (by omega) (by simp[fP];omega) (by
  intro t G;simp only[u!]at G;subst G;intro c m;rw[j!,j!]at m;rcases m with(m|m)|m
  ·revert c;decide
  ·exact b5.2.1 c m
  ·revert c;decide) (.inl (by omega)) (by simp[dH];omega)
 simp only[i!,o!]at ax;obtain⟨bp,bA⟩:=keepA cq ck bz;obtain⟨an,Q⟩:∃an,an=anL 0 (if only=true then roS else rwS) false true false:=⟨_,rfl⟩
 obtain⟨l,W⟩:∃l,l=B.put h.next (some (O (N tA true) an)):=⟨_,rfl⟩
 have ab:aS 5 (X h.next 0) (.agg (V.ofList an)) B=D V.undef l:=by rw[W];exact bp.stN (by rw[Q];rfl) rfl
 have ac:Kn l h.next (O (N tA true) an):=by rw[W];exact bp.put _
 have b1:Ch (λj=>j=h.next) B l:=by rw[W];exact Ch.put _ _ rfl
 have bh:h0.next.nat<=h.next.nat:=q.chz.next;have bN:¬Ft F (λj=>h5.next.nat<=j.nat/\j.nat<h6.next.nat) pc im h.next:=λf=>by
  rcases f with f|f|f|f
  ·exact aM (.inl f)
  ·have:=k1.2;omega
  ·exact aM (.inr (.inr (.inl f)))
  ·exact aM (.inr (.inr (.inr f)))
 have cx:=cw.ah0 b1 bA bN bh;have fin:DF bb h0 Z vw P l pc im ps ir uid w (s++qJ (Wn st.acc.mails b.id).length b.valid b.next st.acc.clock) {st with only:=only,vw:=some (fC st.acc b.id)}:=by
  have:=cx.mk';rw[r]at this;have G:s++qJ (Wn st.acc.mails b.id).length b.valid b.next st.acc.clock=(((((s++(dH [32] [av9]++ [13,10]))++(dH [32] [[42],dZ (Wn st.acc.mails b.id).length,aim]++ [13,10]))++(dH [32] [apZ]++ [13,10]))++(dH [32] [afa++dZ b.valid.toNat++ [93]]++ [13,10]))++(dH [32] [ani++dZ b.next.toNat++ [93]]++ [13,10]))++(dH [32] [avM++dZ st.acc.clock.toNat++ [93]]++ [13,10]):=by
   simp only[qJ,lineS,l!]
  rw[G];exact this
 rw[arH];cases only with
 |true=>
  have aj:=aQU roS B;have M:aS 5 (X h.next 0) (anV 0 roS false true false) B=D V.undef l:=by rw[Q]at ab;exact ab
  simp(disch:=omega)only[vvB,seval,YF,RF,RD,Rz,Ry,Rx,Rw,Rt,Ro,Ns,Nr,Nq,Np,Nl,Nk,Nj,Nh,aaf,
   <-bj,bg,be,S4,ix,V4,e5,R1 q5,e6,S7,S8,e9,bc,vV,Y3,aq,ba,bf,aL,a6,ar,au,a4,a7,a1,ae,av,a5,a8,a2,af,aw,R1 ad,ak,a9,a3,ag,ax,aj,M]
  exact⟨l,by rw[Q]at ac;simp only[bV,bQ,vvB,seval,Ap,ac.ldN (n:=5) rfl,bT],fin⟩
 |false=>
  have aj:=aQU rwS B;have M:aS 5 (X h.next 0) (anV 0 rwS false true false) B=D V.undef l:=by rw[Q]at ab;exact ab
  simp(disch:=omega)only[vvB,seval,YF,RF,RD,Rz,Ry,Rx,Rw,Rt,Ro,Ns,Nr,Nq,Np,Nl,Nk,Nj,Nh,aae,
   <-bj,bg,be,S4,ix,V4,e5,R1 q5,e6,S7,S8,e9,bc,vV,Y3,aq,ba,bf,aL,a6,ar,au,a4,a7,a1,ae,av,a5,a8,a2,af,aw,R1 ad,ak,a9,a3,ag,ax,aj,M]
  exact⟨l,by rw[Q]at ac;simp only[bV,bQ,vvB,seval,Ap,ac.ldN (n:=5) rfl,bT],fin⟩
end
end Go.Proofs.Im
namespace Go.Im
def msC(x:Int×Int×Ml)(vk vs:V):List V:=iV x.1::iV x.2.1::dS x.2.2 vk vs
def msE:El (Int×Int×Ml):=λP h x cs=>∃vk vs,cs=msC x vk vs/\Rws P (flat dN) 1 h vk x.2.2.keys/\Rws P (flat gW) 2 h vs x.2.2.mem
def dK:msE.Stable:=λ⟨vk,vm,e,a,b⟩ c d=>⟨vk,vm,e,a.ch (aJ _) c d,b.ch (aJ _) c d⟩
def vz(ms:List Ml)(box:Int)(i:Nat)(x:Int×Int×Int):List (Int×Int×Ml):=
 match ms.find? λm=>decide (m.id=x.2.1) with
 |some m=>if m.mem.any (λy=>decide ((box,x.1)=y)) then [((i:Int)+1,x.1,m)] else []
 |none=> []
def fH(ms:List Ml)(box:Int):Nat->List (Int×Int×Int)->List (Int×Int×Ml)
 |_,[]=> []
 |i,x::l=>vz ms box i x++fH ms box (i+1) l
def afI(ms:List Ml)(box:Int):∀(l m:List (Int×Int×Int)) (i:Nat),fH ms box i (l++m)=fH ms box i l++fH ms box (i+l.length) m
 | [],m,i=>by simp[fH]
 |x::l,m,i=>by
  simp only[List.cons_append,fH,C!,l!];rw[afI ms box l m (i+1),show i+1+l.length=i+(l.length+1) by omega]
def OH(ms:List Ml)(box:Int):∀(l:List (Int×Int×Int)) (i:Nat),(fH ms box i l).length<=l.length
 | [],i=>by simp[fH]
 |x::l,i=>by
  simp only[fH,k!,C!];have:=OH ms box l (i+1);have:(vz ms box i x).length<=1:=by
   unfold vz;split
   ·split<;>simp
   ·simp
  omega
def FU{α:Type}{f:α->Bool}:∀{l:List α},l.find? f=(match l.findIdx? f with|some k=>l[k]?|none=>none)
 | []=>rfl
 |a::l=>by
  rw[List.find?_cons,List.findIdx?_cons];by_cases h:f a=true
  ·simp[h]
  ·rw[FU (l:=l)];simp only[h,Bool.false_eq_true,↓reduceIte];cases l.findIdx? f<;>simp
end Go.Im
namespace Go.Proofs.Im
section
variable{h h' g:Hp}{F I J:Pos->Prop}{ps pl ib p pv pc:Pos}{A:Acc}{cb:Cap}{fb uid only:Bool}{v vm vl vw:V}{box had:Int}{m:List Mg}
abbrev zMs:List V:= [Y U 0,Y U 0,Y U 0,Y U 0,H [],Y U 0,.aP,.aP,Y U 0,Y U 0]
def bMs(x:Int×Int×Ml)(vk vs:V)(h:Hp):bW zMs [(0,1,iV x.1),(1,1,iV x.2.1),(2,8,.agg (V.ofList (dS x.2.2 vk vs)))] h=D (.agg (V.ofList (msC x vk vs))) h:=(rfl)
def aTW(x:Int×Int×Ml)(vk vs:V):eH 200 zMs 1 [(0,10,.agg (V.ofList (msC x vk vs)))]=some (O (N 200 true) (msC x vk vs),λp=>.slice p 0 1 (.kn 1)):=(rfl)
def bMb(x y:Int)(h:Hp):bW [Y U 0,Y U 0] [(0,1,iV x),(1,1,iV y)] h=D (.agg (V.ofList (gW (x,y)))) h:=(rfl)
def aq1{m:Ml}{vk vm:V}{p:Pos}{n:Int}{w:Wr}(k:Kn g p (O w [iV n])):wK [.agg (V.ofList (dS m vk vm)),X p 0] g=D (K (decide (m.id=n))) (g.new (O (N 40 true) (dS m vk vm))):=by
 have e1:=(Kn.new g (O (N 40 true) (dS m vk vm))).ld (q:=0) (x:=iV m.id) rfl;have e2:=(k.add (O (N 40 true) (dS m vk vm))).ld (q:=0) (x:=iV n) rfl;rw[aiL];simp only[vvB,seval,apb,agk,ajT,V.cZ,e1,e2];simp only[bV,bQ,vvB,seval,bT]
def anI(p:Pos)(x:V)(g:Hp):dD uz (.func (.func 222) .nil (.cons (X p 0) .nil)) [x] g=wK [x,X p 0] g:=(rfl)
def atC(a:dL h F ps A pl ib cb fb vm vl I)(hA:A.Small)(vk:VwK h J pv box had m vw)(hm:m.length<=1000){w:Wr}{C:List V}(kc:Kn h pc (O w C))(hC:C[1]?=some (X pv 0)):
  ∃r h',sG [X pc 0,X ps 0] h=D r h'/\gK h.next.nat msE 200 10 h' r (fH A.mails box 0 (m.map mgK))/\Nw h h':=by
 obtain⟨r,h1,e1,o1,c1⟩:=abw a hA;have R:=(o1.rws dI).mono (P':=λj=>h.next.nat<=j.nat/\j.nat<h1.next.nat) dI λj hj q=>⟨q,hj⟩
 have P1:=(kc.nw c1).ld hC;have a7:=((kc.nw c1).bump 0).ld hC;have aq:=vk.ch c1 λ_ _ q=>q;obtain⟨ri,h2,e2,o2,c2⟩:=aIW aq hm;have ar:=aq.ch c2 λ_ _ q=>q;have P2:=((kc.nw c1).nw c2).ld hC;obtain⟨ru,h3,e3,o3,c3⟩:=af0 ar hm;have Ri:=(o2.rws (aJ _)).nw (aJ _) c3;have Ru:=o3.rws (aJ _);have L:Nw h1 h3:=c2.trans c3;have n1:=c1.next;have n2:=c2.next;have n3:=c3.next;have hn:=hA.mails;rw[amC];show aV h! _ (λr h'=>gK h.next.nat msE 200 10 h' r (fH A.mails box 0 (m.map mgK))/\Nw h h') _;have cN:∀{k:Out},chk (λh=>aF (X pc 1) h) (X pv 0) k 1 [h1]=k:=qw rfl P1;have li:=Ri.len h3;rw[q!]at li;simp only[vvB,seval,aeH,mJ,Xb,W9,adn,WY,e1,P1,P2,cN,e2,e3,li];refine Oc.then (dP (σ:=V) (n:=m.length) (pi:=26) (pn:=25) (pc:=27) [8,24,5,7,0] (λv=> [v,ri,r,ru,X pc 0]) (λk v g=>Nw h3 g/\dF h3.next.nat (λj=>h.next.nat<=j.nat/\j.nat<h1.next.nat) msE 200 10 g v (fH A.mails box 0 ((m.map mgK).take k)))
  (A:=λfr g=>∃v,fr.get (a! 8)=some v/\Nw h3 g/\dF h3.next.nat (λj=>h.next.nat<=j.nat/\j.nat<h1.next.nat) msE 200 10 g v (fH A.mails box 0 (m.map mgK))) (B:=λfr g=>False) (s:=.aP)
  (λfr h _ k e1 e2=>by simp only[vvB,seval,WX,e1,e2]) (λfr h k _ e1=>by simp(disch:=omega)only[vvB,seval,VO,e1]) (by decide) (by rw[dR];omega) (qK0) (qK0) (by simp only[Fa,vvB,seval,and_self]) ⟨Nw.refl _,by simpa[fH]using dF.nil _ _ _ _ _ _⟩ ?_ ?_) ?_ ?_
 ·intro k v fr g hk G ae fa hI;obtain⟨f8,E,f5,f7,f0,-⟩:=fa;obtain⟨c,o⟩:=hI;obtain⟨x,hx⟩:∃x,m[k]?=some x:=⟨_,c! hk⟩
  have aM:(m.map (·.id))[k]?=some x.id:=by rw[x!,hx];rfl
  have a0:(m.map (·.uid))[k]?=some x.uid:=by rw[x!,hx];rfl
  have aR:(m.map mgK)[k]?=some (mgK x):=by rw[x!,hx];rfl
  have af:fH A.mails box 0 ((m.map mgK).take (k+1))=fH A.mails box 0 ((m.map mgK).take k)++vz A.mails box k (mgK x):=by
   rw[Go.Vm.take_snoc aR,afI,n!,q!,Nat.min_eq_left (J! hk),z!];simp[fH]
  obtain⟨i1,q1,au,ag,aw,-,-,-,a2,-⟩:=(Ri.nw (aJ _) c).elt aM;obtain rfl:au=iG x.id:=aw;have i:=a2 g rfl 0 (iV x.id) rfl;rw[p!]at i;obtain⟨g2,aD,Q,k2⟩:=mkW g (O (N 3 true) [iV x.id]);have S2:aS 1 (X g.next 0) (iV x.id) (g.new (O (N 3 true) [Y U 0]))=D V.undef g2:=by rw[aD];exact YQ ⟨rfl,rfl⟩ (by decide)
  have ai:=c.trans Q;obtain⟨g3,e4,c4⟩:=UR (R.nw dI (L.trans ai)) dI (λy=>decide (y.id=x.id)) (by omega) (f:=.func (.func 222) .nil (.cons (X g.next 0) .nil)) (λb cs g _ cg e _=>by
   obtain⟨vk,vm,rfl,-,-⟩:=e;rw[anI,aq1 (k2.nw cg)];exact⟨_,rfl,Nw.new _ _⟩)
  have d:Nw h3 g3:=ai.trans c4;have W:=FU (f:=λy:Ml=>decide (y.id=x.id)) (l:=A.mails);have a6:(fH A.mails box 0 ((m.map mgK).take k)).length<=1000:=by
   have:=OH A.mails box ((m.map mgK).take k) 0;rw[n!,q!]at this;omega
  have ba:=c.next;cases Z:A.mails.findIdx? (λy=>decide (y.id=x.id)) with
  |none=>
   rw[Z]at e4 W;simp only[fE]at e4;have M:vz A.mails box k (mgK x)= []:=by unfold vz;show(match A.mails.find? (λy=>decide (y.id=x.id)) with|some m=>_|none=>_)=_;rw[W]
   simp(disch:=omega)only[vvB,seval,zV,zU,zT,E,G,f5,ag,i,S2,e4];refine⟨qK2 G,qK2 ae,v,by simp only[Fa,vvB,seval,f8,E,f5,f7,f0,and_self],d,?_⟩;rw[af,M,Q!];exact o.nw dK (Q.trans c4)
  |some t=>
   rw[Z]at e4 W;simp only[fE]at e4;obtain⟨y,hy⟩:∃y,A.mails[t]?=some y:=by
    cases hq:A.mails[t]? with
    |some y=>exact⟨y,rfl⟩
    |none=>
     rw[w!]at Z;obtain⟨ht,-⟩:=Z;rw[c! ht]at hq;cases hq
   have aa:A.mails.find? (λy=>decide (y.id=x.id))=some y:=by rw[W];exact hy
   have a1:=g! hy;have bb:=hA.each y a1;have a5:=(ar.ch c3 λ_ _ q=>q).ch d λ_ _ q=>q;have P3:=((((kc.nw c1).nw L).nw d).bump 0).ld hC;have ah:=(((kc.nw c1).nw L).nw d).ld hC;have eB:=aIX a5;obtain⟨i2,q2,a8,am,ax,-,aE,-,a3,a4⟩:=(R.nw dI (L.trans d)).elt hy;obtain⟨yk,ys,rfl,rk,rs⟩:=ax;have P:=a3 g3 rfl 5 ys rfl;obtain⟨i3,q3,av,an,ay,-,aL,-,ao,-⟩:=(Ru.nw (aJ _) d).elt a0;obtain rfl:av=iG x.uid:=ay;have u:=ao g3 rfl 0 (iV x.uid) rfl;rw[p!]at u;obtain⟨S,e5,c5⟩:=aiM rs (box,x.uid) (by omega);have aj:∀{k:Out},chk (λh=>aF (X i2 (q2+5)) h) ys k 1 [g3]=k:=qw rs.noF P;have ak:∀{k:Out},chk (λh=>aF (X i3 q3) h) (iV x.uid) k 1 [g3]=k:=qw rfl u;have ad:=d.trans c5;have ab:((t:Int)>=0)=True:=eq_true (by omega);by_cases hc:(y.mem.any λz=>decide ((box,x.uid)=z))=true
   ·rw[hc]at e5;have e5:kV [ys,.agg (.cons (iV box) (.cons (iV x.uid) .nil))] g3=D (K true) S:=e5;have M:vz A.mails box k (mgK x)= [((k:Int)+1,x.uid,y)]:=by
     unfold vz;show(match A.mails.find? (λy=>decide (y.id=x.id)) with|some m=>_|none=>_)=_;rw[aa];show(if(y.mem.any λz=>decide ((box,x.uid)=z))=true then _ else _)=_;rw[if_pos hc];rfl
    have ap:=a4 (aK 1 S) (c5.get i2 aE λq=>q);have ac:=ao (aK 1 S) (c5.get i3 aL λq=>q) 0 (iV x.uid) rfl;rw[p!]at ac;have og:=o.nw dK ((Q.trans c4).trans c5);have a9:=ad.next;obtain⟨v',g5,e6,o6,c6,n6,-⟩:=og.app1 (bt:=120) (x:=((k:Int)+1,x.uid,y)) (cs:=msC ((k:Int)+1,x.uid,y) yk ys) (P':=λj=>h.next.nat<=j.nat/\j.nat<h1.next.nat) dK (by omega) rfl (λ_ _ q=>q) ⟨yk,ys,rfl,rk.nw (aJ _) c5,rs.nw (aJ _) c5⟩ (λj _ q e=>by have:=(og.eY e).1;omega) (by omega);have e6:bZ 200 10 120 v (.slice S.next 0 1 (.kn 1)) (S.new (O (N 200 true) (msC ((k:Int)+1,x.uid,y) yk ys)))=D v' g5:=e6;have al:(aK 1 S).put S.next (some (O (N 200 true) (msC ((k:Int)+1,x.uid,y) yk ys)))=S.new (O (N 200 true) (msC ((k:Int)+1,x.uid,y) yk ys)):=rfl;have bM:=λh=>bMs ((k:Int)+1,x.uid,y) yk ys h;simp only[]at bM;simp(disch:=omega)only[vvB,seval,zV,zU,zT,WW,E,G,f5,f7,f8,f0,ag,i,S2,e4,ab,ah,eB,am,P,aj,an,u,ak,bMb,e5,ap,ac,bM,aTW,al,e6];refine⟨qK2 G,qK2 ae,v',by simp only[Fa,vvB,seval,E,f5,f7,f0,and_self],?_,?_⟩
    ·exact ad.own c6 λj e=>(og.eY e).1
    ·rw[af,M];exact o6
   ·have az:(y.mem.any λz=>decide ((box,x.uid)=z))=false:=Bool.eq_false_iff.2 hc;rw[az]at e5;have e5:kV [ys,.agg (.cons (iV box) (.cons (iV x.uid) .nil))] g3=D (K false) S:=e5;have M:vz A.mails box k (mgK x)= []:=by
     unfold vz;show(match A.mails.find? (λy=>decide (y.id=x.id)) with|some m=>_|none=>_)=_;rw[aa];show(if(y.mem.any λz=>decide ((box,x.uid)=z))=true then _ else _)=_;rw[if_neg hc]
    simp(disch:=omega)only[vvB,seval,zV,zU,zT,E,G,f5,f7,f8,f0,ag,i,S2,e4,ab,ah,eB,am,P,aj,an,u,ak,bMb,e5];refine⟨qK2 G,qK2 ae,v,by simp only[Fa,vvB,seval,f8,E,f5,f7,f0,and_self],ad,?_⟩;rw[af,M,Q!];exact o.nw dK ((Q.trans c4).trans c5)
 ·intro v fr g fa hI;obtain⟨f8,-⟩:=fa;obtain⟨c,o⟩:=hI;rw[List.take_of_length_le (by simp)]at o;exact⟨v,f8,c,o⟩
 ·rintro fr g ⟨v,f8,c,o⟩;simp only[vvB,seval,VN,f8];exact aV.ret (r:=v) (qT0) ⟨o.wide dK (by omega) λj hj q=>⟨q.1,λe=>by have:=(o.eY e).1;omega⟩,(c1.trans L).trans c⟩
 ·intro fr g q;exact q.elim
end
end Go.Proofs.Im
namespace Go.Vm
section
variable{h h':Hp}{im:Pos}{α:Type}
def Kn.aSH{t:TypeId}{f:Bool}{ds:List (List V)}{rest c:List V}{w k:Nat}(o:Kn h im (O (N t f) (ds.flatten++rest)))(b:∀d∈ds,d.length=w)(i:k<ds.length)(e:c.length=w):
  aS w (X im (k*w)) (.agg (V.ofList c)) h=D V.undef (h.put im (some (O (N t f) ((ds.set k c).flatten++rest)))):=by
 have hl:=ji b;have j:(k+1)*w=k*w+w:=H! k w;have m:(k+1)*w<=ds.length*w:=L! _ i;have n:jo (k*w) c (ds.flatten++rest)=some ((ds.set k c).flatten++rest):=by
  rw[WG (by rw[k!];omega),D! (by omega),afQ k b,e,<-j,List.drop_append_of_le_length (by omega),ase (k+1) b];rw[List.set_eq_take_append_cons_drop,if_pos i];simp[l!]
 rw[xB o.1 rfl (by show P! (V.ofList c).list.length w=true;rw[V.cZ,e,A!])];show(match jo (k*w) (V.ofList c).list (ds.flatten++rest) with|some a=>R.ok V.undef (h.put im (some (O (N t f) a)))|none=>.bad)=_;rw[V.cZ,n]
def Kn.aS3{wr:Wr}{ds:List (List V)}{rest c:List V}{w k:Nat}(n:Kn h im (O wr (ds.flatten++rest)))(d:∀c∈ds,c.length=w)(a:ds[k]?=some c):bH w (X im (k*w)) h=D (.agg (V.ofList c)) h:=by
 have j:=(b!.1 a).1;have hl:=ji d;have e:=Gq d a;have b:=d c (g! a);have o:(k+1)*w=k*w+w:=H! k w;have m:(k+1)*w<=ds.length*w:=L! _ j;show dV h im (λ_ cs=>match gy w (fB (k*w) cs) with|some l=>R.ok (V.agg (V.ofList l)) h|none=>.bad)=_;rw[dW (wr:=wr) (all:=ds.flatten++rest) (by rw[n.1];rfl),uO (cs:=c) (λf i=>?_) b];rw[G! (by omega),<-e,List.getElem?_take,if_pos i,v!]
def aaC(zs:List V):∀n:Nat,(times n zs).length=n*zs.length
 |0=>by show([]:List V).length=_;simp
 |n+1=>by show(zs++times n zs).length=_;rw[k!,aaC zs n,H!];omega
def amY{w n m:Nat}(a:m<n)(h:Hp):fM w (.slice im 0 n (.un w)) (some (Y U (m:Int))) none none h=D (.slice im (m*w) (n - m) (.un w)) h:=by
 cases m with
 |zero=>
  show(match F! n n,F! 0 n,P! w w with
     |true,true,true=>R.ok (V.slice im 0 n (.un w)) h
     |_,_,_=>R.bad)=_
  rw[d! (t! _),d! (T! _),A!,Nat.zero_mul,Nat.sub_zero]
 |succ m=>
  show(match F! n n,F! (m+1) n,P! w w with
     |true,true,true=>(match Nat.blt (m+1) n with
      |true=>fK (0+(m+1)*w) λq=>fK (n - (m+1)) λn=>R.ok (V.slice im q n (.un w)) h
      |false=>D .emp h)
     |_,_,_=>R.bad)=_
  rw[d! (t! _),d! (J! a),A!,show Nat.blt (m+1) n=true by rw[U!];exact a];simp only[dM,z!]
def amX{w n m:Nat}(a:m<=n)(h:Hp):fM w (.slice im 0 n (.un w)) none (some (Y U (m:Int))) none h=D (.slice im 0 m (.un w)) h:=by
 show(match F! m n,F! 0 m,P! w w with
     |true,true,true=>R.ok (V.slice im 0 m (.un w)) h
     |_,_,_=>R.bad)=_
 rw[d! a,d! (T! _),A!]
def afT{t:TypeId}{f:Bool}{ds:List (List V)}{rest zs:List V}{w m:Nat}(k:Kn h im (O (N t f) (ds.flatten++rest)))(e:∀d∈ds,d.length=w)(n:m<ds.length)(i:zs.length=w):
  Uz zs (.slice im (m*w) (ds.length - m) (.un w)) h=D V.undef (h.put im (some (O (N t f) ((ds.take m).flatten++(times (ds.length - m) zs++rest))))):=by
 have hl:=ji e;have a:m*w+(ds.length - m)*w=ds.length*w:=by rw[<-Nat.add_mul];congr 1;omega
 have c:jo (m*w) (times (ds.length - m) zs) (ds.flatten++rest)=some ((ds.take m).flatten++(times (ds.length - m) zs++rest)):=by
  rw[WG (by rw[aaC,i,k!];omega),aaC,i,a,D! (by omega),afQ m e];rw[<-hl,List.drop_left,l!]
 obtain⟨q,j⟩:∃q,ds.length - m=q+1:=⟨ds.length - m - 1,by omega⟩
 rw[j]at c⊢;show dV h im (λwr cs=>(match wr with
   |N t f=>(match jo (m*w) (times (q+1) zs) cs with|some b=>R.ok V.undef (h.put im (some (O (N t f) b)))|none=>.bad)
   | .ro=>.bad))=_
 rw[dW (wr:=N t f) (all:=ds.flatten++rest) (by rw[k.1];rfl)];simp only[c]
def yY(el:TypeId)(w:Nat)(P:Pos->Prop)(E:El α)(h:Hp)(v:V)(l:List α):Prop:=
 ∃a,All2 (E P h) l a/\(∀c∈a,c.length=w)/\((l= []/\v=.aP)\/∃i f rest,v=.slice i 0 l.length (.un w)/\Kn h i (O (N el f) (a.flatten++rest)))
def dF.aOT{b:Nat}{P:Pos->Prop}{E:El α}{el:TypeId}{w:Nat}{v:V}{l:List α}(r:dF b P E el w h v l):yY el w P E h v l:=by
 obtain⟨c,a,j,s⟩:=r;refine⟨c,a,j,?_⟩;rcases s.is with⟨h0,e⟩|⟨i,e,hb,hi,f,d⟩
 ·exact .inl ⟨List.length_eq_zero_iff.1 h0,e⟩
 ·exact .inr ⟨i,f,[],e,by simpa using d,hi⟩
def yY.rws{el:TypeId}{w:Nat}{P:Pos->Prop}{E:El α}{v:V}{l:List α}(r:yY el w P E h v l)(d:E.Stable):Rws (λj=>P j\/bI v=some j) E w h v l:=by
 obtain⟨b,a,c,r⟩:=r;have a':All2 (E (λj=>P j\/bI v=some j) h) l b:=a.mono λ_ _ e=>d e (Nw.refl h) λj _ q=>⟨.inl q,λq=>q⟩
 rcases r with⟨rfl,rfl⟩|⟨i,f,rest,rfl,k⟩
 ·cases a;exact Rws.aP _ _ _ _
 ·refine⟨b,a',c,⟨by rw[ji c,a.len],.inr ⟨i,0,_,N el f,b.flatten++rest,rfl,k.2,by rw[k.1];rfl,λq m=>?_⟩⟩,λ_ _ _ _ e=>(by cases e;rfl),λj hj=>.inr hj⟩;rw[z!,G!];rw[ji c,a.len];exact m
def yY.ch{el:TypeId}{w:Nat}{P P' S:Pos->Prop}{E:El α}{v:V}{l:List α}(r:yY el w P E h v l)(d:E.Stable)(c:Ch S h h')(n:∀j,bI v=some j->¬S j)(m:∀j:Pos,j.nat<h.next.nat->P j->P' j/\¬S j):yY el w P' E h' v l:=by
 obtain⟨b,a,o,r⟩:=r;exact⟨b,a.mono λ_ _ e=>d e c m,o,r.imp id λ⟨i,f,rest,e,k⟩=>⟨i,f,rest,e,k.ch c (n i (by rw[e];rfl))⟩⟩
def yY.nw{el:TypeId}{w:Nat}{P:Pos->Prop}{E:El α}{v:V}{l:List α}(r:yY el w P E h v l)(a:E.Stable)(c:Nw h h'):yY el w P E h' v l:=r.ch a c (λ_ _ q=>q) λ_ _ q=>⟨q,λq=>q⟩
def EF{p:α->Bool}{l:List α}{k:Nat}{x:α}(a:l[k]?=some x):(l.take (k+1)).filter p=(l.take k).filter p++(if p x=true then [x] else []):=by
 rw[take_snoc a,List.filter_append];congr 1;by_cases h:p x=true<;>simp[h]
end
end Go.Vm
namespace Go.Proofs.Im
section
variable{h h' g:Hp}{P:Pos->Prop}{p im:Pos}{v f:V}{l:List (Int×Int×Ml)}
def apQ(r:yY 200 10 P msE h v l)(hP:∀j,P j->bI v≠some j)(p:Int×Int×Ml->Bool)(hn:l.length<=1000)
  (ap:∀a cs g,a∈l->Ch (λj=>bI v=some j) h g->(∃Q,msE Q g a cs)->∃g',dD jM f [.agg (V.ofList cs)] g=D (K (p a)) g'/\Nw g g')
  (aq:∀a cs g,a∈l->Ch (λj=>bI v=some j) h g->(∃Q,msE Q g a cs)->∃g',dD uY f [.agg (V.ofList cs)] g=D (K (p a)) g'/\Nw g g'):
  ∃Z h',jA [v,f] h=D Z h'/\yY 200 10 P msE h' Z (l.filter λa=>!p a)/\Ch (λj=>bI v=some j) h h'/\∀j,bI Z=some j->bI v=some j:=by
 obtain⟨h1,e1,c1⟩:=yZ (r.rws dK) dK p (by omega) (f:=f) (λa cs g ha W e _=>ap a cs g ha W.ch ⟨_,e⟩);cases S:l.findIdx? p with
 |none=>
  rw[S]at e1;simp only[fE]at e1;have aj:l.filter (λa=>!p a)=l:=M!.2 λa ha=>by
   have:=List.findIdx?_eq_none_iff.1 S a ha;simp[this]
  refine⟨v,h1,?_,by rw[aj];exact r.nw dK c1,c1.ch,λ_ q=>q⟩;rw[qF];simp(disch:=omega)only[vvB,seval,kZ,mJ,mG,mF,qW,e1];simp only[bV,bQ,vvB,seval,bT]
 |some t=>
  rw[S]at e1;simp only[fE]at e1;obtain⟨ht,av,au⟩:=w!.1 S;have al:(l.take t).filter (λa=>!p a)=l.take t:=M!.2 λa ha=>by
   obtain⟨j,hj,e⟩:=List.mem_iff_getElem.1 ha;rw[n!]at hj;have:=au j (by omega);rw[List.getElem_take]at e;rw[e]at this;simpa using this
  obtain⟨ah,a,hw,rr⟩:=r;rcases rr with⟨rfl,-⟩|⟨i,ff,rest,rfl,km⟩
  ·simp at ht
  have ao:=a.len;have ln:∀g,aZ 2 (.slice i 0 l.length (.un 10)) g=D (Y U (l.length:Int)) g:=λg=>rfl;have ax:l[t]?=some l[t]:=c! ht;have m1:=km.nw c1;have az:∀j,bI (V.slice i 0 l.length (.un 10))=some j->j=i:=λj e=>by cases e;rfl
  have ai:∀j,P j->j≠i:=λj q e=>hP j q (by rw[e];rfl);rw[qF]
  suffices T:aV h! [.tmp 4] (λZ h'=>yY 200 10 P msE h' Z (l.filter λa=>!p a)/\Ch (λj=>bI (V.slice i 0 l.length (.un 10))=some j) h h'/\∀j,bI Z=some j->bI (V.slice i 0 l.length (.un 10))=some j)
    (kZ (T.set (some f) (a! 1) (T.set (some (.slice i 0 l.length (.un 10))) (a! 0) T.nil)) h) by
   obtain⟨Z,h',e,q⟩:=T;exact⟨Z,h',e,q⟩
  simp(disch:=omega)only[vvB,seval,kZ,mJ,mG,mF,A7,e1];refine Oc.then (dX (n:=l.length - (t+1)) (λm fr g=>∃(j:Nat) (ds:List (List V)),fr.get (a! 0)=some (.slice i 0 l.length (.un 10))/\fr.get (a! 1)=some f/\fr.get (a! 5)=some (Y U ((((l.take j).filter λa=>!p a).length:Nat):Int))/\fr.get (a! 6)=some (Y U (j:Int))/\
    j+m=l.length/\((l.take j).filter λa=>!p a).length<j/\Kn g i (O (N 200 ff) (ds.flatten++rest))/\(∀d∈ds,d.length=10)/\ds.length=l.length/\
    All2 (msE P g) ((l.take j).filter λa=>!p a) (ds.take ((l.take j).filter λa=>!p a).length)/\All2 (msE P g) (l.drop j) (ds.drop j)/\Ch (λq=>q=i) h g)
   (A:=λfr g=>∃ds:List (List V),fr.get (a! 0)=some (.slice i 0 l.length (.un 10))/\fr.get (a! 5)=some (Y U (((l.filter λa=>!p a).length:Nat):Int))/\(l.filter λa=>!p a).length<l.length/\Kn g i (O (N 200 ff) (ds.flatten++rest))/\(∀d∈ds,d.length=10)/\ds.length=l.length/\
    All2 (msE P g) (l.filter λa=>!p a) (ds.take (l.filter λa=>!p a).length)/\Ch (λq=>q=i) h g) (B:=λ_ _=>False) (by rw[dR];omega) ?_ ?_) ?_ ?_
  ·have aa:(l.take (t+1)).filter (λa=>!p a)=l.take t:=by
    rw[EF ax,al];simp[av]
   have y:(l.take t).length=t:=by rw[n!];omega
   have a1:All2 (msE P h1) l ah:=a.mono λ_ _ e=>dK e c1 λj _ q=>⟨q,λq=>q⟩
   exact⟨t+1,ah,qK0,qK0,by simp only[vvB,seval];rw[aa,y],qK1,by omega,by rw[aa,y];omega,m1,hw,ao,by rw[aa,y];exact a1.take t,a1.drop (t+1),c1.ch⟩
  ·rintro m fr g ⟨j,ds,f0,f1,M,f6,hj,ad,kg,o,I,x1,x2,W⟩;by_cases hz:m=0
   ·have ar:j=l.length:=by omega
    subst ar;rw[B!]at M ad x1;simp(disch:=omega)only[vvB,seval,mP,mD,f0,f6,ln];exact⟨rfl,ds,qK2 f0,qK2 M,ad,kg,o,I,x1,W⟩
   ·have C:j<l.length:=by omega
    obtain⟨x,hx⟩:∃x,l[j]?=some x:=⟨_,c! C⟩
    obtain⟨c,hc⟩:∃c,ds[j]?=some c:=⟨_,c! (by omega)⟩
    have ex:msE P g x c:=by
     obtain⟨c',ak,e⟩:=x2.get (k:=0) (x:=x) (by rw[v!,p!];exact hx);rw[v!,p!,hc]at ak;cases ak;exact e
    have b:=o c (g! hc);have N1:=kg.aS3 o hc;have I1:=λg=>sN (sz:=10) (i:=i) (c:=.un 10) C g;obtain⟨E,u⟩:∃E,E=g.new (O (N 200 true) c):=⟨_,rfl⟩
    have S2:aS 10 (X g.next 0) (.agg (V.ofList c)) (g.new (O (N 200 true) zMs))=D V.undef E:=by
     rw[u];have:=BK (h:=g) (t:=200) (f:=true) (z:=zMs) (l:=V.ofList c) (n:=10) (V.iI _) (by rw[V.cZ];exact b) rfl;rw[V.cZ]at this;exact this
    have L:Nw g E:=by rw[u];exact Nw.new _ _
    have k2:Kn E g.next (O (N 200 true) c):=by rw[u];exact Kn.new _ _
    have an:msE P E x c:=dK ex L λj _ q=>⟨q,λq=>q⟩
    obtain⟨g3,e3,c3⟩:=aq x c E (g! hx) ((W.nw L).mono λj _ e=>by rw[e];rfl) ⟨_,an⟩;have N2:=k2.ldN b;have N3:=(k2.nw c3).ldN b;have ae:=(kg.nw L).nw c3;have af:∀{a cs},msE P g a cs->msE P g3 a cs:=λe=>dK e (L.trans c3) λj _ q=>⟨q,λq=>q⟩
    have ay:l.drop j=x::l.drop (j+1):=by rw[e! C];rw[c! C]at hx;cases hx;rfl
    have am:All2 (msE P g) (l.drop (j+1)) (ds.drop (j+1)):=by
     have:=x2.drop 1;rwa[R!,R!]at this
    cases hp:p x with
    |false=>
     rw[hp]at e3;obtain⟨s,J⟩:∃s,s=((l.take j).filter λa=>!p a).length:=⟨_,rfl⟩
     rw[<-J]at M ad x1;have I2:=λg=>sN (sz:=10) (i:=i) (c:=.un 10) (show s<l.length by omega) g;obtain⟨g4,ac⟩:∃g4,g4=g3.put i (some (O (N 200 ff) ((ds.set s c).flatten++rest))):=⟨_,rfl⟩
     have S4:aS 10 (X i (s*10)) (.agg (V.ofList c)) g3=D V.undef g4:=by rw[ac];exact ae.aSH o (by omega) b
     have c4:Ch (λq=>q=i) g3 g4:=by rw[ac];exact Ch.put _ _ rfl
     have ag:∀{a cs},msE P g a cs->msE P g4 a cs:=λe=>dK (af e) c4 λj _ q=>⟨q,ai j q⟩
     simp(disch:=omega)only[vvB,seval,mP,mD,qU,qR,AZ,wG,ajo,f0,f1,M,f6,ln,I1,N1,S2,N2,e3,N3,I2,S4];have G:(l.take (j+1)).filter (λa=>!p a)=(l.take j).filter (λa=>!p a)++ [x]:=by rw[EF hx];simp[hp]
     have ab:((l.take (j+1)).filter λa=>!p a).length=s+1:=by rw[G,k!,<-J];rfl
     refine⟨m - 1,by omega,j+1,ds.set s c,qK2 f0,qK2 f1,by simp only[vvB,seval];rw[ab];rfl,qK1,by omega,by rw[ab];omega,by rw[ac];exact ae.put _,?_,by rw[List.length_set];exact I,?_,?_,?_⟩
     ·intro d hd;rcases List.mem_or_eq_of_mem_set hd with q|q
      ·exact o d q
      ·rw[q];exact b
     ·have aw:(ds.set s c).take (s+1)=ds.take s++ [c]:=by
       rw[N!,List.getElem?_set_self (by omega),List.take_set_of_le (t! _)];rfl
      rw[ab,G,aw];exact(x1.mono λ_ _ e=>ag e).append (.cons (ag ex) .nil)
     ·rw[List.drop_set_of_lt (by omega)];exact am.mono λ_ _ e=>ag e
     ·exact((W.nw L).nw c3).trans c4 λ_ _ q=>q
    |true=>
     rw[hp]at e3;simp(disch:=omega)only[vvB,seval,mP,mD,qU,qR,ajo,f0,f1,M,f6,ln,I1,N1,S2,N2,e3];have G:(l.take (j+1)).filter (λa=>!p a)=(l.take j).filter (λa=>!p a):=by rw[EF hx];simp[hp]
     exact⟨m - 1,by omega,j+1,ds,qK2 f0,qK2 f1,by simp only[vvB,seval,M];rw[G],qK1,by omega,by rw[G];omega,ae,o,I,by rw[G];exact x1.mono λ_ _ e=>af e,am.mono λ_ _ e=>af e,(W.nw L).nw c3⟩
  ·rintro fr g ⟨ds,f0,M,y,kg,o,I,x1,W⟩;obtain⟨s,J⟩:∃s,s=(l.filter λa=>!p a).length:=⟨_,rfl⟩
   rw[<-J]at M y x1;have s1:=amY (im:=i) (w:=10) y g;have z1:=afT (zs:=zMs) (m:=s) kg o (by omega) rfl;rw[I]at z1;obtain⟨E,u⟩:∃E,E=g.put i (some (O (N 200 ff) ((ds.take s).flatten++(times (l.length - s) zMs++rest)))):=⟨_,rfl⟩
   rw[<-u]at z1;have L:Ch (λq=>q=i) g E:=by rw[u];exact Ch.put _ _ rfl
   have k2:Kn E i (O (N 200 ff) ((ds.take s).flatten++(times (l.length - s) zMs++rest))):=by rw[u];exact kg.put _
   have s2:=amX (im:=i) (w:=10) (J! y) E;simp only[vvB,seval,zJ,zI,f0,M,s1,z1,s2];refine aV.ret (qT0) ⟨⟨ds.take s,x1.mono λ_ _ e=>dK e L λj _ q=>⟨q,ai j q⟩,λc hc=>o c (List.mem_of_mem_take hc),.inr ⟨i,ff,_,by rw[<-J],k2⟩⟩,(W.trans L λ_ _ q=>q).mono λj _ e=>by rw[e];rfl,λj e=>by cases e;rfl⟩
  ·intro fr g q;exact q.elim
end
end Go.Proofs.Im
namespace Go.Im
abbrev xQ:List Nat:= [36,100,101,108,101,116,101,100]
def ML(m:Ml):Bool:=m.keys.any λa=>decide (xQ=a)
structure DGood (A:Acc) (y:Ml):Prop where
 small:A.Small
 logged:A.Logged
 inn:y.In A
 ents:A.ents.length<=8000
 clock:A.clock<900000
 oct:0<=A.octets/\A.octets<1000000000
 text:y.text.length<1000000000
inductive Ds:Acc->List Ml->Acc->Prop
 |nil (A:Acc):Ds A [] A
 |cons {A B:Acc} {x y:Ml} {l:List Ml} {t:Nat}:A.mails[t]?=some y->y.id=x.id->A.mails.findIdx? (λz=>decide (z.id=y.id))=some t->DGood A y->Ds (alG A t y) l B->Ds A (x::l) B
structure Purges (A:Acc) (ks:Int×Int×List (Int×Int×Int)) (l:List (Int×Int×Ml)) (C:Acc):Prop where
 small:A.Small
 few:ks.2.2.length<=1000
 sub:∀x∈l,x∈fH A.mails ks.1 0 ks.2.2
 len:l.length<=1000
 ds:Ds A ((l.filter λx=>ML x.2.2).map (·.2.2)) C
 smallC:C.Small
 box:∀x∈fH A.mails ks.1 0 ks.2.2,x.2.2.keys.length<=1000/\x.2.2.mem.length<=1000/\∀y∈x.2.2.mem,y.1=ks.1
end Go.Im
namespace Go.Proofs.Im
section
variable{h h' g h0:Hp}{P F I J Z:Pos->Prop}{ps pl ib pv ir pc im:Pos}{cb:Cap}{fb uid:Bool}{vm vl vv vw:V}{m:List Mg}{st:Sn}{L:List V}{s:List Nat}{w:Wds}{ks:Int×Int×List (Int×Int×Int)}{bb:Nat}
def Rq.aHr(q:Rq bb h0 Z h pc im ps ir uid w s st L vw P F J pl ib cb fb vm vl vv I)(g:Hp):aZ 2 vw g=D (Y U (w.len:Int)) g:=q.ws.len g
def Rq.messages(q:Rq bb h0 Z h pc im ps ir uid w s st L vw P F J pl ib cb fb vm vl vv I)(d:st.vw=some ks)(c:st.acc.Small)(e:ks.2.2.length<=1000):
  ∃r h',sG [X pc 0,X ps 0] h=D r h'/\gK h.next.nat msE 200 10 h' r (fH st.acc.mails ks.1 0 ks.2.2)/\Nw h h':=by
 have a:=q.wd.view;rw[d]at a;obtain⟨pv,vwr,m,rfl,vk,b⟩:=a;have:=atC q.wd.acc c vk (by have:=congrArg S! b;simp at this;omega) q.wd.con rfl;rw[b]at this;exact this
end
section
variable{h h' h0:Hp}{P F I J Z S:Pos->Prop}{ps pl ib ir pc im a0:Pos}{cb:Cap}{fb uid only:Bool}{vm vl vv vw:V}{l:List (Int×Int×Ml)}{st:Sn}{L:List V}{s:List Nat}{w:Wds}{k:Nat}{b:Bx}{bb:Nat}
def Rq.away(q:Rq bb h0 Z h pc im ps ir uid w s st L vw P F J pl ib cb fb vm vl vv I):¬(Ft F J pc im h.next\/OfB ir 5 L h.next):=λe=>e.elim (λf=>by have:=q.wd.lt _ f;omega) λo=>by have:=(o.from q.bd _).2;omega
def Rq.fin(q:Rq bb h0 Z h pc im ps ir uid w s st L vw P F J pl ib cb fb vm vl vv I){d:Hp}{a:Bool}{z:Wds}{s2:List Nat}{st2:Sn}(r:DF bb h (λj=>Ft F J pc im j\/OfB ir 5 L j) vw P d pc im ps ir a z s2 st2)(M:Kn h a0 (O (N tA true) zAn))(g:¬(Ft F J pc im a0\/OfB ir 5 L a0))(hb:h0.next.nat<=a0.nat)(c:List V)(hl:c.length=5):
  ∃n,aS 5 (X a0 0) (.agg (V.ofList c)) d=D V.undef n/\Kn n a0 (O (N tA true) c)/\DF bb h0 Z vw P n pc im ps ir a z s2 st2:=by
 have aa:=M.2;obtain⟨r0,W⟩:=q.comp r;obtain⟨E,B,C,u,t,i,m,x,v,y,Q,r1⟩:=r;have G:=M.ch W g;have no:¬OfB ir 5 E a0:=λo=>(r1.ob _ o).elim g λl=>by omega
 have nf:¬Ft B C pc im a0:=λf=>(r1.foot _ f).elim g λl=>by omega
 have p:∀j,(Ft F J pc im j\/OfB ir 5 L j)\/h.next.nat<=j.nat->Z j\/h0.next.nat<=j.nat:=λj e=>by
  rcases e with(e|e)|e
  ·exact q.foot j e
  ·exact q.ob j e
  ·have:=q.chz.next;exact .inr (by omega)
 have r2:Rq bb h0 Z d pc im ps ir a z s2 st2 E vw P B C u t i m x v y Q:=
  {bd:=r1.bd
   hbb:=q.hbb
   ob:=λj o=>p j (r1.ob j o)
   l0:=r1.l0
   l1:=r1.l1
   l3:=r1.l3
   l4:=r1.l4
   ws:=r1.ws
   wd:=r1.wd
   dis:=r1.dis
   old:=q.old
   foot:=λj f=>p j (r1.foot j f)
   chz:=q.chz.trans r1.chz λj hj e=>(p j (.inl e)).resolve_right (by omega)}
 refine⟨d.put a0 (some (O (N tA true) c)),G.stN hl rfl,G.put _,?_⟩;exact(r2.ah0 (Ch.put (S:=λj=>j=a0) _ _ rfl) no nf hb).mk'
def aGv(q:Rq bb h0 Z h pc im ps ir uid w s st L vw P F J pl ib cb fb vm vl vv I)(d:w.len=1)(f:oI w= [je])(e:I4 w=false)(r:CanBox st.acc k b)(a:s.length<=100000):
  ∃h',Xq [X pc 0,X ir 0] h=D (anV 0 rwS false true false) h'/\
   DF bb h0 Z vw P h' pc im ps ir uid w (s++qJ (Wn st.acc.mails b.id).length b.valid b.next st.acc.clock) {st with only:=false,vw:=some (fC st.acc b.id)}:=by
 obtain⟨m,c,j,t⟩:=mkW h (O (N tA true) zAn);have g:=q.nw j;obtain⟨o,e2,r2⟩:=aHm g.aEM false d f e r a;obtain⟨p,i,u,v⟩:=g.fin r2 t q.away q.chz.next (anL 0 rwS false true false) rfl;refine⟨p,?_,v⟩;have e2:FC [X pc 0,X ir 0,K false] m=D (anV 0 rwS false true false) o:=e2
 rw[ayp];simp(disch:=omega)only[vvB,seval,as3,aCB,aj6,<-c,e2,i];simp only[bV,bQ,vvB,seval,Ap,u.ldN (n:=5) rfl,bT]
end
end Go.Proofs.Im
namespace Go.Im
def Tq(name:List Nat):List (List Nat×Nat×Nat×Bool)->Option (Nat×Nat×Bool)
 | []=>none
 |c::l=>if name=c.1 then some c.2 else Tq name l
def anB(f:Nat×Nat×Bool->V)(name:List Nat):∀l:List (List Nat×Nat×Nat×Bool),xK (H name) (l.map λc=>(H c.1,f c.2))=some ((Tq name l).map f)
 | []=>rfl
 |c::l=>by
  have b:iR (H name) (H c.1)=some (decide (name=c.1)):=by show some (jC name c.1)=_;rw[afl]
  simp only[i!,xK,b,Tq];by_cases h:name=c.1
  ·simp[h]
  ·simp[h,anB f name l]
abbrev aOJ:List Nat:= [117,105,100]
end Go.Im
namespace Go.Proofs.Im
section
variable{bb:Nat}{h h' h0:Hp}{P F I J Z:Pos->Prop}{ps pl ib pv ir pc im a0:Pos}{cb:Cap}{fb uid only u:Bool}{vm vl vv vw:V}{st st2:Sn}{L a:List V}{s s2 nm:List Nat}{w:Wds}{f n:Nat}
def aE0{h:Hp}(b:h.get im=some (.map (gX pc)))(z:V)(name:List Nat):
  afB .string true z (.map im) (H name) h=D (.tuple (.cons (((Tq name alI).map (aID pc)).getD z) (.cons (K (Tq name alI).isSome) .nil))) h:=by
 show(match h.get im with|some (.map es)=>ann true z (H name) es h|_=>.bad)=_;rw[b];simp only[ann,gX,anB];cases Tq name alI<;>rfl
def Cmd(f:Nat)(bb:Nat)(pc im ps ir:Pos)(uid:Bool)(w:Wds)(s:List Nat)(st:Sn)(vw:V)(P:Pos->Prop)(a:List V)(s2:List Nat)(st2:Sn):Prop:=
 ∀(h0:Hp) (Z:Pos->Prop) (h:Hp) (L:List V) (F J:Pos->Prop) (pl ib:Pos) (cb:Cap) (fb:Bool) (vm vl vv:V) (I:Pos->Prop),Rq bb h0 Z h pc im ps ir uid w s st L vw P F J pl ib cb fb vm vl vv I->
  ∃b,dD aGE (.func (.func f) (.cons (X pc 0) .nil) .nil) [X ir 0] h=D (.agg (V.ofList a)) b/\DF bb h0 Z vw P b pc im ps ir uid w s2 st2
def aH3(n:Nat)(st:Sn):Prop:=n=0\/(n=1/\st.inn=false)\/(n=2/\st.inn=true)\/(n=3/\st.vw≠none)
def aHJ:Go.Vm.F->Hp->Out:=(aB (aB Io (bD 0 (aB Il (tT 63 ahi (aB Ij (tT 70 ahh (aB Ii (tT 76 ahg y!)))))))) (aB (aB Ih (tT 84 (aB asR E!) y!)) (aB Ig E!)))
def aCU:Go.Vm.F->Hp->Out:=aB ab4 (aB (aB ab3 (tT 59 (aB amf E!) y!)) (aB AO aHJ))
def aGJ:aGK=aB RF (aB (aB ab5 (tT 11 (aB (aB amg (tT 17 (aB amf E!) y!)) (aB ame amd)) y!)) aCU):=rfl
def RunT(bb:Nat)(h0:Hp)(Z:Pos->Prop)(vw:V)(P:Pos->Prop)(pc im ps ir:Pos)(uid:Bool)(w:Wds)(a:List V)(s2:List Nat)(st2:Sn)(r:V)(h':Hp):Prop:=r=.agg (V.ofList a)/\DF bb h0 Z vw P h' pc im ps ir uid w s2 st2
def aKx(q:Rq bb h0 Z h pc im ps ir uid w s st L vw P F J pl ib cb fb vm vl vv I)(ka:Kn h a0 (O (N tA true) zAn))(aw:¬(Ft F J pc im a0\/OfB ir 5 L a0))(ha:h0.next.nat<=a0.nat)(hf:Tq nm alI=some (f,n,u))(hu:uid=true->u=true)(hm:aH3 n st)(hc:Cmd f bb pc im ps ir uid w s st vw P a s2 st2)(hl:a.length=5)
  {fr:Go.Vm.F} (f0:fr.get (a! 0)=some (X pc 0)) (f1:fr.get (a! 1)=some (X ir 0)) (f2:fr.get (a! 2)=some (H nm)) (b:fr.get (a! 6)=some (X a0 0)):
  aV h! [.cell 6 tA] (RunT bb h0 Z vw P pc im ps ir uid w a s2 st2) (aCU fr h):=by
 obtain⟨d,g⟩:∃d,d=(h.new (O (N 122 true) [.gV,Y U 0,K false])).put h.next (some (O (N 122 true) [.func (.func f) (.cons (X pc 0) .nil) .nil,Y U (n:Int),K u])):=⟨_,rfl⟩
 have S:Nw h d:=by rw[g];exact ail _ _ _
 have z:Kn d h.next (O (N 122 true) [.func (.func f) (.cons (X pc 0) .nil) .nil,Y U (n:Int),K u]):=by rw[g];exact(Kn.new h _).put _
 have i:=q.nw S;have E:=ka.nw S;obtain⟨h2,e2,r2⟩:=hc _ _ _ _ _ _ _ _ _ _ _ _ _ _ i.aEM;obtain⟨h3,l,k3,r3⟩:=i.fin r2 E aw ha a hl;have G:=q.wd.con.ld (q:=4) (x:=.map im) rfl;have y:=aE0 q.wd.map.1 (.agg (.cons .gV (.cons (Y U 0) (.cons (K false) .nil)))) nm;rw[hf]at y;simp only[Option.map_some,Option.getD_some,Option.isSome_some,aID]at y;have Q:=z.ld (q:=2) (x:=K u) rfl;have p:=z.ld (q:=1) (x:=Y U (n:Int)) rfl;have m:=z.ld (q:=0) (x:=.func (.func f) (.cons (X pc 0) .nil) .nil) rfl;have k:=i.wd.con.ld (q:=0) (x:=K st.inn) rfl;have W:=i.wd.con.ld (q:=1) (x:=vv) rfl;have M:=i.kr.ld i.l4;have C:st.vw≠none->∃pv,vv=X pv 0:=λB=>by
  have:=q.wd.view;cases v:st.vw with
  |none=>exact absurd v B
  |some o=>rw[v]at this;obtain⟨pv,_,_,e,_⟩:=this;exact⟨pv,e⟩
 have rest:∀fr:Go.Vm.F,fr.get (a! 0)=some (X pc 0)->fr.get (a! 1)=some (X ir 0)->fr.get (a! 6)=some (X a0 0)->fr.get (a! 7)=some (X h.next 0)->fr.get (a! 9)=some (K true)->aV h! [.cell 6 tA] (RunT bb h0 Z vw P pc im ps ir uid w a s2 st2) (aHJ fr d):=by
  clear f0 f1 f2 b;intro fr f0 f1 b r t;unfold aHJ;have ret:∀fr:Go.Vm.F,fr.get (a! 6)=some (X a0 0)->aV h! [.cell 6 tA] (RunT bb h0 Z vw P pc im ps ir uid w a s2 st2) (.ret fr h3):=λfr b=>
   aV.ret (by simp only[bQ,vvB,seval,b,Ap,k3.ldN (n:=5) hl,bT]) ⟨rfl,r3⟩
  rcases hm with rfl|⟨rfl,hi⟩|⟨rfl,hi⟩|⟨rfl,v⟩
  ·have c:aF (X h.next 1) d=D (Y U 0) d:=p;simp(disch:=omega)only[vvB,seval,Io,Il,Ij,Ii,Ih,Ig,f0,f1,b,r,t,c,m,e2,l,r!];exact ret _ (qK2 b)
  ·have c:aF (X h.next 1) d=D (Y U 1) d:=p;rw[hi]at k;simp(disch:=omega)only[vvB,seval,Io,Il,ahi,Ij,Ii,Ih,Ig,f0,f1,b,r,t,c,m,k,e2,l,r!];exact ret _ (qK2 b)
  ·have c:aF (X h.next 1) d=D (Y U 2) d:=p;rw[hi]at k;simp(disch:=omega)only[vvB,seval,Io,Il,Ij,ahh,Ii,Ih,Ig,f0,f1,b,r,t,c,m,k,e2,l,r!];exact ret _ (qK2 b)
  ·have c:aF (X h.next 1) d=D (Y U 3) d:=p;obtain⟨pv,rfl⟩:=C v;simp(disch:=omega)only[vvB,seval,Io,Il,Ij,Ii,ahg,Ih,Ig,f0,f1,b,r,t,c,m,W,ayP,e2,l,r!];exact ret _ (qK2 b)
 unfold aCU;cases uid with
 |false=>
  simp(disch:=omega)only[vvB,seval,ab4,ab3,AO,f0,f1,f2,b,G,y,oV,aCP (dY _ _),<-g,M];exact rest _ (qK2 f0) (qK2 f1) (qK2 b) (qK0) (qK0)
 |true=>
  have j:=hu rfl;rw[j]at Q g;simp(disch:=omega)only[vvB,seval,ab4,ab3,AO,f0,f1,f2,b,G,y,j,oV,aCP (dY _ _),<-g,M,Q];exact rest _ (qK2 f0) (qK2 f1) (qK2 b) (qK0) (qK0)
def run_go(q:Rq bb h0 Z h pc im ps ir false w s st L vw P F J pl ib cb fb vm vl vv I)(c:nm≠aOJ)(k:Tq nm alI=some (f,n,u))(l:aH3 n st)(j:Cmd f bb pc im ps ir false w s st vw P a s2 st2)(hl:a.length=5):
  ∃h',ahT [X pc 0,X ir 0,H nm] h=D (.agg (V.ofList a)) h'/\DF bb h0 Z vw P h' pc im ps ir false w s2 st2:=by
 obtain⟨p,b,d,m⟩:=mkW h (O (N tA true) zAn);have o:=q.nw d;have g:(nm= [117,105,100])=False:=eq_false c;rw[aHf,aGJ]
 suffices i:aV h! [.cell 6 tA] (RunT bb h0 Z vw P pc im ps ir false w a s2 st2)
   (aB RF (aB (aB ab5 (tT 11 (aB (aB amg (tT 17 (aB amf E!) y!)) (aB ame amd)) y!)) aCU) (T.set (some (H nm)) (a! 2) (T.set (some (X ir 0)) (a! 1) (T.set (some (X pc 0)) (a! 0) T.nil))) h) by
  obtain⟨r,h',e,rfl,q⟩:=i;exact⟨h',e,q⟩
 simp(disch:=omega)only[vvB,seval,g,RF,ab5,<-b];exact aKx o m q.away q.chz.next k (λe=>by cases e) l j hl (qK0) (qK0) (qK0) (qK0)
end
end Go.Proofs.Im
