/- Lemmas that the claim's last text uses. No conditions. -/
import Derived.Test.YtpgppmioigacoaaGreatDoorSAV
set_option linter.all false
set_option maxRecDepth 100000
open Go.Vm.Pos renaming of→a!
open List renaming eraseIdx_eq_take_drop_succ→b!,mem_append→c!,getElem?_eq_some_iff→d!,getElem?_eq_getElem→g!,drop_eq_getElem_cons→i!,length_append→n!,map_cons→o!,append_nil→p!,mem_of_getElem?→q!,append_assoc→r!,length_take→t!,length_eraseIdx_of_lt→u!,drop_eq_nil_of_le→v!,mem_map_of_mem→x!,length_cons→y!,filter_cons→z!,map_append→A!,map_take→B!,map_drop→C!,mem_map→D!,map_nil→E!,length→F!
open Go.Proofs.Tryz renaming prog→e!
open Go.Vm.Out renaming ret→h!,nor→k!
open Nat renaming le_refl→j!,add_zero→w!
open Int renaming reduceEq→l!
open Go.Vm.V renaming int→Y,ptr→X,bool→K,str→H
open Go.IntKind renaming i64→U
open Go.Vm.Ob renaming cells→O
open Go.Vm.Wr renaming rw→N
open Go.Vm.R renaming ok→D
noncomputable section
open Go Go.Proofs Go.Vm Go.Ln Go.Im
namespace Go.Proofs.Im
section
variable{h h' g h0:Hp}{P F I J Z:Pos->Prop}{ps pl ib pv ir pc im:Pos}{cb:Cap}{fb uid:Bool}{vm vl vv vw:V}{m:List Mg}{st:Sn}{L:List V}{s:List Nat}{w:Wds}{ks:Int×Int×List (Int×Int×Int)}{bb:Nat}
theorem Rq.aOt(q:Rq bb h0 Z h pc im ps ir uid w s st L vw P F J pl ib cb fb vm vl vv I)(g:Hp):aZ 2 vw g=D (Y U (w.len:Int)) g:=q.ws.len g
theorem Rq.messages(q:Rq bb h0 Z h pc im ps ir uid w s st L vw P F J pl ib cb fb vm vl vv I)(d:st.vw=some ks)(c:st.acc.Small)(e:ks.2.2.length<=1000):
  ∃r h',sJ [X pc 0,X ps 0] h=D r h'/\gK h.next.nat msE tMs 10 h' r (fQ st.acc.mails ks.1 0 ks.2.2)/\Nw h h':=by
 have a:=q.wd.view;rw[d]at a;obtain⟨pv,vwr,m,rfl,vk,b⟩:=a;have:=arv q.wd.acc c vk (by have:=congrArg F! b;simp at this;omega) q.wd.con rfl;rw[b]at this;exact this
end
section
variable{h h' h0:Hp}{P F I J Z S:Pos->Prop}{ps pl ib ir pc im a0:Pos}{cb:Cap}{fb uid only:Bool}{vm vl vv vw:V}{l:List (Int×Int×Ml)}{st:Sn}{L:List V}{s:List Nat}{w:Wds}{k:Nat}{b:Bx}{bb:Nat}
theorem Rq.away(q:Rq bb h0 Z h pc im ps ir uid w s st L vw P F J pl ib cb fb vm vl vv I):¬(Ft F J pc im h.next\/OfB ir 5 L h.next):=λe=>e.elim (λf=>by have:=q.wd.lt _ f;omega) λo=>by have:=(o.from q.bd _).2;omega
theorem Rq.fin(q:Rq bb h0 Z h pc im ps ir uid w s st L vw P F J pl ib cb fb vm vl vv I){d:Hp}{a:Bool}{z:Wds}{s2:List Nat}{st2:Sn}(r:Ep bb h (λj=>Ft F J pc im j\/OfB ir 5 L j) vw P d pc im ps ir a z s2 st2)(M:Kn h a0 (O (N tA true) zAn))(g:¬(Ft F J pc im a0\/OfB ir 5 L a0))(hb:h0.next.nat<=a0.nat)(c:List V)(hl:c.length=5):
  ∃n,aQ 5 (X a0 0) (.agg (V.ofList c)) d=D V.undef n/\Kn n a0 (O (N tA true) c)/\Ep bb h0 Z vw P n pc im ps ir a z s2 st2:=by
 have aa:=M.2;obtain⟨r0,W⟩:=q.comp r;obtain⟨E,B,C,u,t,i,m,x,v,y,Q,r1⟩:=r;have G:=M.ch W g;have no:¬OfB ir 5 E a0:=λo=>(r1.ob _ o).elim g λl=>by omega
 have nf:¬Ft B C pc im a0:=λf=>(r1.foot _ f).elim g λl=>by omega
 have p:∀j,(Ft F J pc im j\/OfB ir 5 L j)\/h.next.nat<=j.nat->Z j\/h0.next.nat<=j.nat:=λj e=>by
  rcases e with(e|e)|e
  ·exact q.foot j e
  ·exact q.ob j e
  ·have:=q.chz.next;exact .inr (by omega)
 have r2:Rq bb h0 Z d pc im ps ir a z s2 st2 E vw P B C u t i m x v y Q:=
  {bd:=r1.bd
   hbb:=q.hbb
   ob:=λj o=>p j (r1.ob j o)
   l0:=r1.l0
   l1:=r1.l1
   l3:=r1.l3
   l4:=r1.l4
   ws:=r1.ws
   wd:=r1.wd
   dis:=r1.dis
   old:=q.old
   foot:=λj f=>p j (r1.foot j f)
   chz:=q.chz.trans r1.chz λj hj e=>(p j (.inl e)).resolve_right (by omega)}
 refine⟨d.put a0 (some (O (N tA true) c)),G.stN hl rfl,G.put _,?_⟩;exact(r2.alD (Ch.put (S:=λj=>j=a0) _ _ rfl) no nf hb).mk'
theorem aD5(q:Rq bb h0 Z h pc im ps ir uid w s st L vw P F J pl ib cb fb vm vl vv I)(d:w.len=1)(f:oz w= [jA])(e:Gj w=false)(r:CanBox st.acc k b)(a:s.length<=100000):
  ∃h',V6 [X pc 0,X ir 0] h=D (anV 0 rwS false true false) h'/\
   Ep bb h0 Z vw P h' pc im ps ir uid w (s++qp (Wn st.acc.mails b.id).length b.valid b.next st.acc.clock) {st with only:=false,vw:=some (dR st.acc b.id)}:=by
 obtain⟨m,c,j,t⟩:=mkW h (O (N tA true) zAn);have g:=q.nw j;obtain⟨o,e2,r2⟩:=aEK g.aCn false d f e r a;obtain⟨p,i,u,v⟩:=g.fin r2 t q.away q.chz.next (anL 0 rwS false true false) rfl;refine⟨p,?_,v⟩;have e2:DI [X pc 0,X ir 0,K false] m=D (anV 0 rwS false true false) o:=e2
 rw[av8];simp(disch:=omega)only[vvB,seval,agi,ai8,ai7,<-c,e2,i];simp only[aU,cO,vvB,seval,Ei,u.ldN (n:=5) rfl,dn]
end
end Go.Proofs.Im
namespace Go.Im
def Gn(name:List Nat):List (List Nat×Nat×Nat×Bool)->Option (Nat×Nat×Bool)
 | []=>none
 |c::l=>if name=c.1 then some c.2 else Gn name l
theorem al3(f:Nat×Nat×Bool->V)(name:List Nat):∀l:List (List Nat×Nat×Nat×Bool),wU (H name) (l.map λc=>(H c.1,f c.2))=some ((Gn name l).map f)
 | []=>rfl
 |c::l=>by
  have b:jg (H name) (H c.1)=some (decide (name=c.1)):=by show some (kS name c.1)=_;rw[ad9]
  simp only[o!,wU,b,Gn];by_cases h:name=c.1
  ·simp[h]
  ·simp[h,al3 f name l]
abbrev asq:List Nat:= [117,105,100]
end Go.Im
namespace Go.Proofs.Im
section
variable{bb:Nat}{h h' h0:Hp}{P F I J Z:Pos->Prop}{ps pl ib pv ir pc im a0:Pos}{cb:Cap}{fb uid only u:Bool}{vm vl vv vw:V}{st st2:Sn}{L a:List V}{s s2 nm:List Nat}{w:Wds}{f n:Nat}
theorem aCB{h:Hp}(b:h.get im=some (.map (iw pc)))(z:V)(name:List Nat):
  aeo .string true z (.map im) (H name) h=D (.tuple (.cons (((Gn name aaz).map (aFN pc)).getD z) (.cons (K (Gn name aaz).isSome) .nil))) h:=by
 show(match h.get im with|some (.map es)=>alS true z (H name) es h|_=>.bad)=_;rw[b];simp only[alS,iw,al3];cases Gn name aaz<;>rfl
def Cmd(f:Nat)(bb:Nat)(pc im ps ir:Pos)(uid:Bool)(w:Wds)(s:List Nat)(st:Sn)(vw:V)(P:Pos->Prop)(a:List V)(s2:List Nat)(st2:Sn):Prop:=
 ∀(h0:Hp) (Z:Pos->Prop) (h:Hp) (L:List V) (F J:Pos->Prop) (pl ib:Pos) (cb:Cap) (fb:Bool) (vm vl vv:V) (I:Pos->Prop),Rq bb h0 Z h pc im ps ir uid w s st L vw P F J pl ib cb fb vm vl vv I->
  ∃b,dI aEd (.func (.func f) (.cons (X pc 0) .nil) .nil) [X ir 0] h=D (.agg (V.ofList a)) b/\Ep bb h0 Z vw P b pc im ps ir uid w s2 st2
def atE(n:Nat)(st:Sn):Prop:=n=0\/(n=1/\st.inn=false)\/(n=2/\st.inn=true)\/(n=3/\st.vw≠none)
def aE4:Go.Vm.F->Hp->Out:=(aB (aB FT (bG 0 (aB FQ (aT (.tmp 63) af4 (aB FP (aT (.tmp 70) af2 (aB FO (aT (.tmp 76) af0 k!)))))))) (aB (aB FN (aT (.tmp 84) (aB aqZ h!) k!)) (aB FM h!)))
def asM:Go.Vm.F->Hp->Out:=aB aa9 (aB (aB aa8 (aT (.tmp 59) (aB avu h!) k!)) (aB aa7 aE4))
theorem aq0:avA=aB KW (aB (aB KU (aT (.tmp 11) (aB (aB Um (aT (.tmp 17) (aB abb h!) k!)) (aB Ul Uk)) k!)) asM):=rfl
def RunT(bb:Nat)(h0:Hp)(Z:Pos->Prop)(vw:V)(P:Pos->Prop)(pc im ps ir:Pos)(uid:Bool)(w:Wds)(a:List V)(s2:List Nat)(st2:Sn)(r:V)(h':Hp):Prop:=r=.agg (V.ofList a)/\Ep bb h0 Z vw P h' pc im ps ir uid w s2 st2
theorem axV(q:Rq bb h0 Z h pc im ps ir uid w s st L vw P F J pl ib cb fb vm vl vv I)(ka:Kn h a0 (O (N tA true) zAn))(aw:¬(Ft F J pc im a0\/OfB ir 5 L a0))(ha:h0.next.nat<=a0.nat)(hf:Gn nm aaz=some (f,n,u))(hu:uid=true->u=true)(hm:atE n st)(hc:Cmd f bb pc im ps ir uid w s st vw P a s2 st2)(hl:a.length=5)
  {fr:Go.Vm.F} (f0:fr.get (a! 0)=some (X pc 0)) (f1:fr.get (a! 1)=some (X ir 0)) (f2:fr.get (a! 2)=some (H nm)) (b:fr.get (a! 6)=some (X a0 0)):
  aW e! [.cell 6 tA] (RunT bb h0 Z vw P pc im ps ir uid w a s2 st2) (asM fr h):=by
 obtain⟨d,g⟩:∃d,d=(h.new (O (N aEV true) [.iH,Y U 0,K false])).put h.next (some (O (N aEV true) [.func (.func f) (.cons (X pc 0) .nil) .nil,Y U (n:Int),K u])):=⟨_,rfl⟩
 have S:Nw h d:=by rw[g];exact ag0 _ _ _
 have z:Kn d h.next (O (N aEV true) [.func (.func f) (.cons (X pc 0) .nil) .nil,Y U (n:Int),K u]):=by rw[g];exact(Kn.new h _).put _
 have i:=q.nw S;have E:=ka.nw S;obtain⟨h2,e2,r2⟩:=hc _ _ _ _ _ _ _ _ _ _ _ _ _ _ i.aCn;obtain⟨h3,l,k3,r3⟩:=i.fin r2 E aw ha a hl;have G:=q.wd.con.ld (q:=4) (x:=.map im) rfl;have y:=aCB q.wd.map.1 (.agg (.cons .iH (.cons (Y U 0) (.cons (K false) .nil)))) nm;rw[hf]at y;simp only[Option.map_some,Option.getD_some,Option.isSome_some,aFN]at y;have Q:=z.ld (q:=2) (x:=K u) rfl;have p:=z.ld (q:=1) (x:=Y U (n:Int)) rfl;have m:=z.ld (q:=0) (x:=.func (.func f) (.cons (X pc 0) .nil) .nil) rfl;have k:=i.wd.con.ld (q:=0) (x:=K st.inn) rfl;have W:=i.wd.con.ld (q:=1) (x:=vv) rfl;have M:=i.kr.ld i.l4;have C:st.vw≠none->∃pv,vv=X pv 0:=λB=>by
  have:=q.wd.view;cases v:st.vw with
  |none=>exact absurd v B
  |some o=>rw[v]at this;obtain⟨pv,_,_,e,_⟩:=this;exact⟨pv,e⟩
 have rest:∀fr:Go.Vm.F,fr.get (a! 0)=some (X pc 0)->fr.get (a! 1)=some (X ir 0)->fr.get (a! 6)=some (X a0 0)->fr.get (a! 7)=some (X h.next 0)->fr.get (a! 9)=some (K true)->aW e! [.cell 6 tA] (RunT bb h0 Z vw P pc im ps ir uid w a s2 st2) (aE4 fr d):=by
  clear f0 f1 f2 b;intro fr f0 f1 b r t;unfold aE4;have ret:∀fr:Go.Vm.F,fr.get (a! 6)=some (X a0 0)->aW e! [.cell 6 tA] (RunT bb h0 Z vw P pc im ps ir uid w a s2 st2) (.ret fr h3):=λfr b=>
   aW.ret (by simp only[cO,seval,b,Ei,k3.ldN (n:=5) hl,dn]) ⟨rfl,r3⟩
  rcases hm with rfl|⟨rfl,hi⟩|⟨rfl,hi⟩|⟨rfl,v⟩
  ·have c:aF (X h.next 1) d=D (Y U 0) d:=p;simp(disch:=omega)only[vvB,seval,FT,FQ,FP,FO,FN,FM,f1,b,r,t,c,m,e2,l,l!];exact ret _ (qK2 b)
  ·have c:aF (X h.next 1) d=D (Y U 1) d:=p;rw[hi]at k;simp(disch:=omega)only[vvB,seval,FT,FQ,af4,FP,FO,FN,FM,f0,f1,b,r,c,m,k,e2,l,l!];exact ret _ (qK2 b)
  ·have c:aF (X h.next 1) d=D (Y U 2) d:=p;rw[hi]at k;simp(disch:=omega)only[vvB,seval,FT,FQ,FP,af2,FO,FN,FM,f0,f1,b,r,c,m,k,e2,l,l!];exact ret _ (qK2 b)
  ·have c:aF (X h.next 1) d=D (Y U 3) d:=p;obtain⟨pv,rfl⟩:=C v;simp(disch:=omega)only[vvB,seval,FT,FQ,FP,FO,af0,FN,FM,f0,f1,b,r,c,m,W,awy,e2,l,l!];exact ret _ (qK2 b)
 unfold asM;cases uid with
 |false=>
  simp(disch:=omega)only[vvB,seval,aa9,aa8,aa7,f0,f1,f2,G,y,aAj (dX _ _),<-g,M];exact rest _ (qK2 f0) (qK2 f1) (qK2 b) (qK0) (qK0)
 |true=>
  have j:=hu rfl;rw[j]at Q g;simp(disch:=omega)only[vvB,seval,aa9,aa8,aa7,f0,f1,f2,G,y,j,aAj (dX _ _),<-g,M,Q];exact rest _ (qK2 f0) (qK2 f1) (qK2 b) (qK0) (qK0)
theorem run_go(q:Rq bb h0 Z h pc im ps ir false w s st L vw P F J pl ib cb fb vm vl vv I)(c:nm≠asq)(k:Gn nm aaz=some (f,n,u))(l:atE n st)(j:Cmd f bb pc im ps ir false w s st vw P a s2 st2)(hl:a.length=5):
  ∃h',ZC [X pc 0,X ir 0,H nm] h=D (.agg (V.ofList a)) h'/\Ep bb h0 Z vw P h' pc im ps ir false w s2 st2:=by
 obtain⟨p,b,d,m⟩:=mkW h (O (N tA true) zAn);have o:=q.nw d;have g:(nm= [117,105,100])=False:=eq_false c;rw[arb,aq0]
 suffices i:aW e! [.cell 6 tA] (RunT bb h0 Z vw P pc im ps ir false w a s2 st2)
   (aB KW (aB (aB KU (aT (.tmp 11) (aB (aB Um (aT (.tmp 17) (aB abb h!) k!)) (aB Ul Uk)) k!)) asM) (T.set (some (H nm)) (a! 2) (T.set (some (X ir 0)) (a! 1) (T.set (some (X pc 0)) (a! 0) T.nil))) h) by
  obtain⟨r,h',e,rfl,q⟩:=i;exact⟨h',e,q⟩
 simp(disch:=omega)only[vvB,seval,g,KW,KU,<-b];exact axV o m q.away q.chz.next k (λe=>by cases e) l j hl (qK0) (qK0) (qK0) (qK0)
end
end Go.Proofs.Im
namespace Go.Im
def oJ(now:List (Int×Ml))(x:Mg):Option (Int×Ml):=now.find? λy=>decide (y.1=x.uid)&&decide (y.2.id=x.id)
abbrev nV:List Nat:= [69,88,80,85,78,71,69]
def Ee(n:Nat)(l:List (List Nat)):List Nat:= [42,32]++dP n++ [32]++dV [32] l++ [13,10]
def yL(now:List (Int×Ml))(l:List Mg):List Mg:=l.filter λx=>(oJ now x).isSome
def nZ(now:List (Int×Ml)):Nat->List Mg->List Nat
 |_,[]=> []
 |i,x::l=>if(oJ now x).isSome=true then nZ now (i+1) l else Ee (i+1) [nV]++nZ now i l
end Go.Im
namespace Go.Proofs.Im
section
variable{h h' g:Hp}{P:Pos->Prop}{p cp i:Pos}{uid only:Bool}{v:V}{L j:List V}{s:List Nat}{w:Wds}{f n:Nat}{b:Bx}{now:List (Int×Ml)}
theorem aro{y:Int×Ml}{vk vs:V}{x:Mg}{w:Wr}(kp:Kn g p (O w (mgC x))):xZ [.agg (V.ofList (thC y vk vs)),X p 0] g=D (K (decide (y.1=x.uid)&&decide (y.2.id=x.id))) (g.new (O (N tTh true) (thC y vk vs))):=by
 have e1:=(Kn.new g (O (N tTh true) (thC y vk vs))).ld (q:=0) (x:=iV y.1) rfl;have c:=(Kn.new g (O (N tTh true) (thC y vk vs))).ld (q:=1) (x:=iV y.2.id) rfl;have e2:=(kp.add (O (N tTh true) (thC y vk vs))).ld (q:=0) (x:=iV x.uid) rfl;have d:=(kp.add (O (N tTh true) (thC y vk vs))).ld (q:=1) (x:=iV x.id) rfl;rw[ak2];by_cases e:y.1=x.uid
 ·have a:(y.1=x.uid)=True:=eq_true e;simp only[vvB,seval,Ea,GK,GI,V.bW,e1,e2,c,d,a];simp only[aU,cO,vvB,seval,dn,Bool.true_and]
 ·have a:(y.1=x.uid)=False:=eq_false e;simp only[vvB,seval,Ea,GK,GI,V.bW,e1,e2,c,d,a];simp only[aU,cO,vvB,seval,dn,Bool.false_and]
theorem aoU(p:Pos)(x:V)(g:Hp):dI yG (.func (.func zG) .nil (.cons (X p 0) .nil)) [x] g=xZ [x,X p 0] g:=(rfl)
theorem ayu(x:V)(h:Hp):A7 e! tTh x h=bT 9 x h:=kR
theorem aeO{w:Wr}(kc:Kn h cp (O w [v]))(r:Rws P Ce 9 h v now)(hn:now.length<=1000)(x:Mg):
  ∃h' cs f,Je [.agg (V.ofList (mgC x)),X cp 0] h=D (.tuple (.cons (.agg (V.ofList cs)) (.cons (K f) .nil))) h'/\Nw h h'/\cs.length=9/\f=(oJ now x).isSome/\∀y,oJ now x=some y->∃vk vs,cs=thC y vk vs:=by
 obtain⟨u,G,c1,k1⟩:=mkW h (O (N tVm true) (mgC x));obtain⟨h2,I,c2,k2⟩:=mkW u (O (N tTh true) zTh);have c:=c1.trans c2;have V2:=(kc.nw c).ld (q:=0) (x:=v) rfl;have Z:∀g,fC (.func zG) [] [X h.next 0] g=D (.func (.func zG) .nil (.cons (X h.next 0) .nil)) g:=λg=>rfl;obtain⟨o,e3,C⟩:=ahr (r.nw dS c) dS (λy=>decide (y.1=x.uid)&&decide (y.2.id=x.id)) (by omega) (f:=.func (.func zG) .nil (.cons (X h.next 0) .nil)) (λy cs g _ cg e _=>by
  obtain⟨vk,vs,rfl,-,-⟩:=e;rw[aoU,aro ((k1.nw c2).nw cg)];exact⟨_,rfl,Nw.new _ _⟩)
 have d:nO [v,.func (.func zG) .nil (.cons (X h.next 0) .nil)] h2=D (iV (gy (now.findIdx? λy=>decide (y.1=x.uid)&&decide (y.2.id=x.id)))) o:=e3;have J:=k2.nw C;have n1:=c1.next;have m:=Kt (f:=λy:Int×Ml=>decide (y.1=x.uid)&&decide (y.2.id=x.id)) (l:=now);have B3:bU zTh [] o=D (.agg (V.ofList zTh)) o:=(rfl)
 rw[an2];cases B:now.findIdx? (λy=>decide (y.1=x.uid)&&decide (y.2.id=x.id)) with
 |none=>
  rw[B]at d m;simp only[gy]at d;have E:oJ now x=none:=m;obtain⟨k,a⟩:∃k,k=o.put u.next (some (O (N tTh true) zTh)):=⟨_,rfl⟩
  have M:aQ 9 (X u.next 0) (.agg (V.ofList zTh)) o=D V.undef k:=by rw[a];exact J.stN rfl rfl
  have S:Kn k u.next (O (N tTh true) zTh):=by rw[a];exact J.put _
  have Q:Nw h k:=by rw[a];exact(c.trans C).put (by omega) _
  simp(disch:=omega)only[vvB,seval,IQ,KG,KF,KE,YH,V.bW,<-G,<-I,V2,Z,d,B3,M];exact⟨k,zTh,false,by simp only[aU,cO,vvB,seval,ayu,S.ldN (n:=9) rfl,dn]<;>rfl,Q,rfl,by rw[E];rfl,λy e=>by rw[E]at e;cases e⟩
 |some t=>
  rw[B]at d m;simp only[gy]at d;obtain⟨y,hy⟩:∃y,now[t]?=some y:=by
   obtain⟨ht,-⟩:=List.findIdx?_eq_some_iff_getElem.1 B;exact⟨_,g! ht⟩
  have E:oJ now x=some y:=by rw[show oJ now x=_ from m];exact hy
  obtain⟨i,q,cs,ix,ex,aa,-,-,-,ln⟩:=(r.nw dS (c.trans C)).elt hy;obtain⟨vk,vs,rfl,-,-⟩:=ex;have W:=ln o rfl;have V3:=((kc.nw c).nw C).ld (q:=0) (x:=v) rfl;obtain⟨k,a⟩:∃k,k=o.put u.next (some (O (N tTh true) (thC y vk vs))):=⟨_,rfl⟩
  have M:aQ 9 (X u.next 0) (.agg (V.ofList (thC y vk vs))) o=D V.undef k:=by rw[a];exact J.stN rfl rfl
  have S:Kn k u.next (O (N tTh true) (thC y vk vs)):=by rw[a];exact J.put _
  have Q:Nw h k:=by rw[a];exact(c.trans C).put (by omega) _
  simp(disch:=omega)only[vvB,seval,IQ,KG,KF,KE,YG,V.bW,<-G,<-I,V2,Z,d,V3,ix,W,M];exact⟨k,thC y vk vs,true,by simp only[aU,cO,vvB,seval,ayu,S.ldN (n:=9) rfl,dn]<;>rfl,Q,rfl,by rw[E];rfl,λz e=>by rw[E]at e;cases e;exact⟨vk,vs,rfl⟩⟩
theorem aF0{b:Nat}(d:Bd b h i 0 tBd L s){n:Nat}(z:n<100){l:List (List Nat)}(sl:Sl h.next.nat h 1 v l.length (l.map H))(e:yN 1 v)(hl:l.length<=100)(W:iU l<=1000000)(hb:∀t∈l,∀c∈t,c<256)(Q:l.length<=1\/dV [32] l≠ [])(hs:s.length<=1000000):
  ∃r h' m,Jf [Y U (n:Int),v,X i 0] h=D r h'/\Bd b h' i 0 tBd m (s++Ee n l)/\Stp (OfB i 0 L) h (OfB i 0 m) h':=by
 have d2:=je z;obtain⟨r1,M,e1,rfl,o⟩:=aak (sep:= [32]) sl e (j! _) (by omega) (by simp) (by omega) hb (by simp) Q;have S:(dV [32] l).length<=1000100:=by
  cases l with
  |nil=>simp[dV]
  |cons a r=>
   rw[AV,n!,aeE];simp[iU]at W⊢;simp at hl;omega
 obtain⟨r2,u,I,e2,b2,Z,-,-⟩:=RI (d.ch o λ_ _ _ q=>q) (Ee n l) (by unfold Ee;simp;omega);have J:=U3 z h;have Sa:∀(x y:List Nat) (g:Hp),x.length+y.length<4000000->aI .add .none (H x) (H y) g=D (H (x++y)) g:=λx y g hl=>gu (by omega);have B:=λg=>Sa [42,32] (dP n) g (by simp;omega);have C:=λg=>Sa ([42,32]++dP n) [32] g (by simp;omega);have E:=λg=>Sa ([42,32]++dP n++ [32]) (dV [32] l) g (by simp;omega);have G:=λg=>Sa ([42,32]++dP n++ [32]++dV [32] l) [13,10] g (by simp;omega);have k:yg [X i 0,H ([42,32]++dP n++ [32]++dV [32] l++ [13,10])] M=D r2 u:=e2;rw[an3];simp only[vvB,seval,Uo,YI,J,B,C,e1,E,G,k];exact⟨_,u,I,by simp only[aU,cO,seval,dn]<;>rfl,b2,((Stp.refl (OfB i 0 L) h).step o λ_ q=>q.elim).trans Z⟩
end
end Go.Proofs.Im
namespace Go.Im
theorem ajV{n:Nat}(e:n<100):(Ee n [nV]).length<=14/\(∀c∈Ee n [nV],c<256)/\Ee n [nV]≠ []:=by
 have d:=je e;refine⟨by simp[Ee,dV];omega,λc b=>?_,by simp[Ee]⟩;simp only[Ee,c!]at b;rcases b with(((b|b)|b)|b)|b
 ·revert c;decide
 ·exact d.2.1 c b
 ·revert c;decide
 ·revert c;decide
 ·revert c;decide
theorem ake(now:List (Int×Ml)):∀(l:List Mg) (i:Nat),i+l.length<100->(nZ now i l).length<=14*l.length/\∀c∈nZ now i l,c<256
 | [],i,_=>⟨by simp[nZ],λc b=>by simp[nZ]at b⟩
 |x::l,i,h=>by
  simp only[y!]at h;unfold nZ;split
  ·have:=ake now l (i+1) (by omega);exact⟨by simp;omega,this.2⟩
  ·have d:=ake now l i (by omega);have e:=ajV (n:=i+1) (by omega);refine⟨by simp;omega,λc b=>?_⟩;rcases c!.1 b with q|q
   ·exact e.2.1 c q
   ·exact d.2 c q
theorem alW(now:List (Int×Ml))(x:Mg)(l:List Mg):yL now (x::l)=if(oJ now x).isSome=true then x::yL now l else yL now l:=by
 unfold yL;rw[z!]
end Go.Im
namespace Go.Proofs.Im
section
variable{h g:Hp}{J:Pos->Prop}{pv im i:Pos}{only u:Bool}{v vw:V}{box had:Int}{st:Sn}{L a:List V}{s:List Nat}{w:Wds}{k f n:Nat}{now:List (Int×Ml)}{m:List Mg}
theorem aAh{w:Wr}(l:Kn h i (O w L))(j:L[1]?=some .aO):Jm [X i 0] h=D (H []) h:=by
 have b:=l.ld j;have c:AQ .aO h=D .bY h:=rfl;have d:aZ 2 .aO h=D (Y U 0) h:=rfl;have e:Gi 5 .bY (Y U 0) h=D (H []) h:=rfl;rw[aq9];simp(disch:=omega)only[vvB,seval,anM,akH,akG,b,c,d,e,uS (v:=.aO) rfl b];simp only[aU,cO,vvB,seval,dn]
theorem aF3(vk:VwK h J pv box had m vw)(M:k<m.length)(Z:m.length<=1000):
  ∃o c vw',lH [vw,Y U (k:Int),Y U ((k:Int)+1)] h=D vw' o/\Kn o pv (O (N tVw true) [iV box,vw,iV had])/\aQ 1 (X pv 1) vw' o=D V.undef c/\VwK c J pv box had (m.eraseIdx k) vw'/\Ch J h c:=by
 rcases vk.row with⟨rfl,-⟩|⟨im,f,rest,rfl,W⟩
 ·simp at M
 have S:∀d∈m.map mgC,d.length=3:=λd hd=>by obtain⟨x,_,rfl⟩:=D!.1 hd;rfl
 have C:(m.map mgC).length=m.length:=List.length_map _;obtain⟨o,t,e1,P,z⟩:=ak8 (i:=k) W S (by omega) (by omega);rw[C]at e1;have G:(m.map mgC).eraseIdx k=(m.eraseIdx k).map mgC:=by
  rw[b!,b!,A!,B!,C!]
 rw[G]at P;have E:(m.eraseIdx k).length=m.length - 1:=u! M;have r:im≠pv:=λe=>vk.nv (by rw[<-e];rfl);have v1:=vk.vw.ch z λe=>r e.symm;obtain⟨c,p⟩:∃c,c=o.put pv (some (O (N tVw true) [iV box,.slice im 0 (m.length - 1) (.un 3),iV had])):=⟨_,rfl⟩
 have Q:aQ 1 (X pv 1) (.slice im 0 (m.length - 1) (.un 3)) o=D V.undef c:=by rw[p];exact v1.st (q:=1) ⟨rfl,rfl⟩ (by simp)
 have B:Ch (λj=>j=pv) o c:=by rw[p];exact Ch.put _ _ rfl
 have I:J im:=vk.foot.2.1 im rfl;have y:Ch J h c:=(z.mono λj _ e=>by rw[e];exact I).trans (B.mono λj _ e=>by rw[e];exact vk.foot.1) λ_ _ q=>q;refine⟨o,c,.slice im 0 (m.length - 1) (.un 3),e1,v1,Q,?_,y⟩;have b:∀x∈m.eraseIdx k,x∈m:=λx l=>List.mem_of_mem_eraseIdx l
 refine⟨by rw[p];exact v1.put _,.inr ⟨im,f,t,by rw[E],P.ch B r⟩,λx l=>((vk.told x (b x l)).ch z λe=>(vk.sep x (b x l)).2 (by rw[e];rfl)).ch B λe=>(vk.sep x (b x l)).1 e,?_,λx l=>⟨(vk.sep x (b x l)).1,λe=>(vk.sep x (b x l)).2 (by cases e;rfl)⟩,λe=>by cases e;exact r rfl,⟨vk.foot.1,λj e=>by cases e;exact I,λx l=>vk.foot.2.2 x (b x l)⟩,λj q=>Nat.lt_of_lt_of_le (vk.lt j q) y.next⟩;have:(m.eraseIdx k).map (·.at_)=(m.map (·.at_)).eraseIdx k:=by
  rw[b!,b!,A!,B!,C!]
 rw[this];exact vk.nd.sublist (List.eraseIdx_sublist _ _)
theorem aEY{cs:List V}(hl:cs.length=9)(h:Hp):aQ 9 (X h.next 0) (.agg (V.ofList cs)) (h.new (O (N tTh true) zTh))=D V.undef (h.new (O (N tTh true) cs)):=by
 have:=ig (h:=h) (t:=tTh) (f:=true) (z:=zTh) (l:=V.ofList cs) (n:=9) (V.dG _) (by rw[V.bW];exact hl) rfl;rw[V.bW]at this;exact this
structure Upd (h:Hp) (J:Pos->Prop) (pv:Pos) (box had:Int) (now:List (Int×Ml)) (pb pn:Pos) (top:Nat) (Pn:Pos->Prop) (rn:V) (g:Hp) (m':List Mg) (vw':V) (s:List Nat) (L:List V):Prop where
 vk:VwK g J pv box had m' vw'
 bd:Bd h.next.nat g pb 0 tBd L s
 ofb:∀j,OfB pb 0 L j->j=pb\/top<=j.nat
 nil:s= []->L[1]?=some .aO
 rows:Rws Pn Ce 9 g rn now
 cell:Kn g pn (O (N tTs true) [rn])
 ch:Ch J h g
 lt:pb.nat<pn.nat/\pn.nat<top/\h.next.nat<=pb.nat
 pn_:∀j,Pn j->pb.nat<j.nat/\j.nat<top/\j≠pn
theorem Upd.nw{pb pn:Pos}{top:Nat}{Pn:Pos->Prop}{rn:V}{g g':Hp}{m':List Mg}{vw':V}(u:Upd h J pv box had now pb pn top Pn rn g m' vw' s L)(c:Nw g g'):Upd h J pv box had now pb pn top Pn rn g' m' vw' s L where
 vk:=u.vk.ch c λ_ _ q=>q
 bd:=u.bd.ch c λ_ _ _ q=>q
 ofb:=u.ofb
 nil:=u.nil
 rows:=u.rows.nw dS c
 cell:=u.cell.nw c
 ch:=u.ch.nw c
 lt:=u.lt
 pn_:=u.pn_
theorem Upd.say{pb pn:Pos}{top:Nat}{Pn:Pos->Prop}{rn:V}{g g':Hp}{m':List Mg}{vw':V}{r:List Nat}{b:List V}(u:Upd h J pv box had now pb pn top Pn rn g m' vw' s L)(p:∀j,J j->j.nat<h.next.nat)(t:top<=g.next.nat)(d:Bd h.next.nat g' pb 0 tBd b r)(c:Stp (OfB pb 0 L) g (OfB pb 0 b) g')(x:r≠ []):Upd h J pv box had now pb pn top Pn rn g' m' vw' r b where
 vk:=u.vk.ch c.ch λj q o=>by have:=p j q;have:=(o.from u.bd _).1;omega
 bd:=d
 ofb:=λj o=>(c.sub j o).elim (u.ofb j) λl=>.inr (by omega)
 nil:=λe=>absurd e x
 rows:=u.rows.ch dS c.ch λj _ q=>⟨q,λo=>(u.ofb j o).elim (λe=>by have:=u.pn_ j q;rw[e]at this;omega) λe=>by have:=u.pn_ j q;omega⟩
 cell:=u.cell.ch c.ch λo=>(u.ofb _ o).elim (λe=>by have:=u.lt;rw[e]at this;omega) λe=>by have:=u.lt;omega
 ch:=u.ch.trans c.ch λj y o=>by have:=(o.from u.bd _).1;omega
 lt:=u.lt
 pn_:=u.pn_
theorem Upd.del{pb pn:Pos}{top:Nat}{Pn:Pos->Prop}{rn:V}{g g':Hp}{m' l:List Mg}{vw' d:V}(u:Upd h J pv box had now pb pn top Pn rn g m' vw' s L)(b:∀j,J j->j.nat<h.next.nat)(vk:VwK g' J pv box had l d)(c:Ch J g g'):Upd h J pv box had now pb pn top Pn rn g' l d s L where
 vk:=vk
 bd:=u.bd.ch c λj hb _ q=>by have:=b j q;omega
 ofb:=u.ofb
 nil:=u.nil
 rows:=u.rows.ch dS c λj _ q=>⟨q,λe=>by have:=b j e;have:=u.pn_ j q;have:=u.lt;omega⟩
 cell:=u.cell.ch c λe=>by have:=b _ e;have:=u.lt;omega
 ch:=u.ch.trans c λ_ _ q=>q
 lt:=u.lt
 pn_:=u.pn_
end
section
variable{h h' g:Hp}{F I J:Pos->Prop}{ps pl ib pv pc i:Pos}{A B:Acc}{cb:Cap}{fb only u:Bool}{v vm vl vw:V}{box had:Int}{L:List V}{s:List Nat}{k f n:Nat}{now:List (Int×Ml)}{m:List Mg}{all:Bool}
theorem al0(now:List (Int×Ml))(i:Nat)(x:Mg)(l:List Mg):nZ now i (x::l)=if(oJ now x).isSome=true then nZ now (i+1) l else Ee (i+1) [nV]++nZ now i l:=(rfl)
theorem aqo{now:List (Int×Ml)}:∀{m:List Mg} {i:Nat},(∀x∈m,(oJ now x).isSome=true)->nZ now i m= []
 | [],_,_=>rfl
 |x::m,i,h=>by rw[al0,if_pos (h x (by simp)),aqo λy a=>h y (by simp[a])]
theorem aCF{now:List (Int×Ml)}{m:List Mg}(h:∀x∈m,(oJ now x).isSome=true):yL now m=m:=List.filter_eq_self.2 h
theorem awW(a:dJ h F ps A pl ib cb fb vm vl I)(hA:A.Small)(vk:VwK h J pv box had m vw)(hm:m.length<50)(hs:(Wn A.mails box).Pairwise λx y=>x.1<y.1)(aE:(Wn A.mails box).length<50)
  (hq:∀x∈m,∀y,oJ (Wn A.mails box) x=some y->y.2.mod<=x.told) (hh:∀y∈Wn A.mails box,y.1<=had) (ab:all=false->∀x∈m,(oJ (Wn A.mails box) x).isSome=true):
  ∃h' vw',ZB [X pv 0,X ps 0,K all] h=D (H (nZ (Wn A.mails box) 0 m)) h'/\VwK h' J pv box had (yL (Wn A.mails box) m) vw'/\Ch J h h':=by
 obtain⟨now,aM⟩:∃now,now=Wn A.mails box:=⟨_,rfl⟩
 obtain⟨h1,aq,c1,-⟩:=mkW h (O (N tBd true) [.bY,.aO]);have n1:h1.next.nat=h.next.nat+1:=by rw[aq,bI]
 have d1:Bd h.next.nat h1 h.next 0 tBd [.bY,.aO] []:=by
  rw[aq];exact⟨j! _,by rw[bI];omega,dX _ _,.inl rfl,⟨.aO,rfl,Ow.nil _ _ _ _,λj hj=>(by cases hj)⟩,ayf⟩
 have B0:=(vk.vw.nw c1).ld (q:=0) (x:=iV box) rfl;obtain⟨r,l,e2,o2,c2⟩:=Wx (a.nw c1) hA hs aE;rw[<-aM]at hs aE hq hh ab o2⊢;have R2:=(o2.rws dS).mono (P':=λj=>h1.next.nat<=j.nat/\j.nat<l.next.nat) dS λj hj q=>⟨q,hj⟩
 have n2:=c2.next;obtain⟨h3,ai⟩:∃h3,h3=l.new (O (N tTs true) [r]):=⟨_,rfl⟩
 have S3:aQ 1 (X l.next 0) r (l.new (O (N tTs true) [.aO]))=D V.undef h3:=by rw[ai];exact XG R2.cell (by simp)
 have c3:Nw l h3:=by rw[ai];exact Nw.new _ _
 have n3:h3.next.nat=l.next.nat+1:=by rw[ai,bI]
 have ax:=(c1.trans c2).trans c3;have u3:Upd h J pv box had now h.next l.next h3.next.nat (λj=>h1.next.nat<=j.nat/\j.nat<l.next.nat) r h3 m vw [] [.bY,.aO]:=
  {vk:=vk.ch ax λ_ _ q=>q
   bd:=d1.ch (c2.trans c3) λ_ _ _ q=>q
   ofb:=λj o=>o.elim .inl λ⟨v,e,hv⟩=>by cases e;cases hv
   nil:=λ_=>rfl
   rows:=R2.nw dS c3
   cell:=by rw[ai];exact Kn.new _ _
   ch:=ax.ch
   lt:=⟨by omega,by omega,j! _⟩
   pn_:=λj q=>⟨by omega,by omega,λe=>by rw[e]at q;omega⟩}
 have aa:=vk.lt;rw[ara]
 suffices T:aW e! [.tmp 6] (λr' h'=>r'=H (nZ now 0 m)/\∃vw',VwK h' J pv box had (yL now m) vw'/\Ch J h h') (agp (T.set (some (K all)) (a! 2) (T.set (some (X ps 0)) (a! 1) (T.set (some (X pv 0)) (a! 0) T.nil))) h) by
  obtain⟨r',h',e,rfl,vw',q⟩:=T;exact⟨h',vw',e,q⟩
 simp only[vvB,seval,agp,akK,akJ,avk,avj,avi,avh,avg,fD,<-aq,B0,e2,S3];refine Oc.then (dW (n:=m.length) (λ μ fr g=>∃(k:Nat) (m':List Mg) (vw':V) (s:List Nat) (L:List V),fr.get (a! 0)=some (X pv 0)/\fr.get (a! 2)=some (K all)/\fr.get (a! 7)=some (X h.next 0)/\fr.get (a! 8)=some (.func (.func ahD) .nil (.cons (X h.next 0) .nil))/\fr.get (a! 9)=some (X l.next 0)/\fr.get (a! 10)=some (.func (.func Ci) .nil (.cons (X l.next 0) .nil))/\fr.get (a! 11)=some (Y U (k:Int))/\
   k+μ=m'.length/\m'.length<=m.length/\h3.next.nat<=g.next.nat/\Upd h J pv box had now h.next l.next h3.next.nat (λj=>h1.next.nat<=j.nat/\j.nat<l.next.nat) r g m' vw' s L/\s++nZ now k (m'.drop k)=nZ now 0 m/\m'.take k++yL now (m'.drop k)=yL now m/\s.length+14*m'.length<=14*m.length/\(all=false->k=0/\m'=m/\s= []))
  (A:=λfr g=>∃(vw':V) (L:List V),fr.get (a! 0)=some (X pv 0)/\fr.get (a! 7)=some (X h.next 0)/\fr.get (a! 9)=some (X l.next 0)/\fr.get (a! 10)=some (.func (.func Ci) .nil (.cons (X l.next 0) .nil))/\h3.next.nat<=g.next.nat/\Upd h J pv box had now h.next l.next h3.next.nat (λj=>h1.next.nat<=j.nat/\j.nat<l.next.nat) r g (yL now m) vw' (nZ now 0 m) L) (B:=λ_ _=>False) (by rw[dO];omega) ?_ ?_) ?_ ?_
 ·exact⟨0,m,vw,[],[.bY,.aO],qK0,qK0,qK0,qK0,qK0,qK0,qK1,by omega,j! _,j! _,u3,by simp,by simp,by simp,λ_=>⟨rfl,rfl,rfl⟩⟩
 ·rintro μ fr g ⟨k,m',vw',s,L,f0,f2,p,f8,G,b,af,hk,a8,ae,u,W,S,hl,a4⟩;have P1:=u.vk.vw.ld (q:=1) (x:=vw') rfl;have ln:=u.vk.rws.len g;by_cases ha:all=false
  ·obtain⟨rfl,rfl,rfl⟩:=a4 ha;rw[ha]at f2;have g1:=aqo (i:=0) (ab ha);simp(disch:=omega)only[vvB,seval,Uz,Ui,f0,f2];refine⟨rfl,vw',L,qK2 f0,qK2 p,qK2 G,qK2 b,ae,?_⟩;rw[g1,aCF (ab ha)];exact u
  have ha:all=true:=by simpa using ha
  rw[ha]at f2;by_cases hz:μ=0
  ·have z:k=m'.length:=by omega
   subst z;rw[List.drop_length]at W S;simp only[nZ,p!]at W;rw[List.take_length,show yL now []= [] from rfl,p!]at S;subst W;subst S;simp(disch:=omega)only[vvB,seval,Uz,Ui,f0,f2,af,P1,ln];exact⟨rfl,vw',L,qK2 f0,qK2 p,qK2 G,qK2 b,ae,u⟩
  ·have z:k<m'.length:=by omega
   obtain⟨x,hx⟩:∃x,m'[k]?=some x:=⟨_,g! z⟩
   have a7:m'.drop k=x::m'.drop (k+1):=by rw[i! z];rw[g! z]at hx;cases hx;rfl
   obtain⟨i,q,cs,ix,ex,-,-,-,-,lN⟩:=u.vk.rws.elt hx;obtain rfl:cs=mgC x:=ex;have C:=lN g rfl;obtain⟨w,cs,f,e4,c4,ac,hf,hy⟩:=aeO u.cell u.rows (by omega) x;have t:dI Zq (.func (.func Ci) .nil (.cons (X l.next 0) .nil)) [.agg (V.ofList (mgC x))] g=D (.tuple (.cons (.agg (V.ofList cs)) (.cons (K f) .nil))) w:=e4;obtain⟨d,M⟩:∃d,d=w.new (O (N tTh true) cs):=⟨_,rfl⟩
   have S5:=aEY ac w;rw[<-M]at S5;have c5:Nw w d:=by rw[M];exact Nw.new _ _
   have ay:=c4.trans c5;have u5:=u.nw ay;have bf:=ay.next;rw[a7]at W S;rw[alW]at S;rw[al0]at W;rw[<-hf]at W S;cases ad:f with
   |true=>
    rw[ad]at W S t;rw[if_pos rfl]at W S;simp(disch:=omega)only[vvB,seval,Uz,Ui,akI,afZ,aqX,f0,f2,b,af,P1,ln,ix,C,t,S5];refine⟨μ - 1,by omega,k+1,m',vw',s,L,qK2 f0,by simp only[vvB,seval,f2,ha],qK2 p,qK2 f8,qK2 G,qK2 b,qK1,by omega,a8,by omega,u5,W,?_,hl,λe=>by rw[ha]at e;cases e⟩;rw[Go.Vm.take_snoc hx,r!];exact S
   |false=>
    rw[ad]at W S t;rw[if_neg (by simp)]at W S;obtain⟨g6,ap,c6,-⟩:=mkW d (O (N 9 true) [H nV]);have n6:g6.next.nat=d.next.nat+1:=by rw[ap,bI]
    have u6:=u5.nw c6;have sl:Sl g6.next.nat g6 1 (.slice d.next 0 1 (.kn 1)) [nV].length ([nV].map H):=by
     have:=Sl.aHd (el:=9) (h:=d) [H nV] (n:=1) rfl;rw[n6,ap];exact this
    obtain⟨rr,g7,L7,e7,d7,p7⟩:=aF0 u6.bd (n:=k+1) (by omega) sl al9 (by simp) (by simp[iU]) (by simp) (.inl (by simp)) (by omega);have aR:s++Ee (k+1) [nV]≠ []:=by simp[Ee]
    have u7:=u6.say aa (by omega) d7 p7 aR;have a3:dI Zq (.func (.func ahD) .nil (.cons (X h.next 0) .nil)) [Y U ((k:Int)+1),.slice d.next 0 1 (.kn 1)] g6=D rr g7:=by
     have hc:((k+1:Nat):Int)=(k:Int)+1:=by omega
     rw[hc]at e7;exact e7
    obtain⟨g8,g9,bc,e8,k8,S9,bb,c9⟩:=aF3 u7.vk z (by omega);have u9:=u7.del aa bb c9;have P7:=u7.vk.vw.ld (q:=1) (x:=vw') rfl;have n7:=p7.ch.next;have n9:=c9.next;have B6:=qo 9 nV (h:=d);rw[<-ap]at B6;simp(disch:=omega)only[vvB,seval,Uz,Ui,akI,afZ,aqW,aqV,f0,f2,f8,b,af,P1,ln,ix,C,t,S5,B6,a3,P7,e8,S9];have ar:(m'.eraseIdx k).length=m'.length - 1:=u! z;have aL:(m'.eraseIdx k).drop k=m'.drop (k+1):=by
     rw[b!,List.drop_append_of_le_length (by rw[t!];omega),v! (by rw[t!];omega),List.nil_append]
    have a9:(m'.eraseIdx k).take k=m'.take k:=by
     rw[b!,List.take_append_of_le_length (by rw[t!];omega),List.take_take,Nat.min_self]
    refine⟨μ - 1,by omega,k,m'.eraseIdx k,bc,_,L7,qK2 f0,by simp only[vvB,seval,f2,ha],qK2 p,qK2 f8,qK2 G,qK2 b,qK2 af,by omega,by omega,by omega,u9,?_,?_,?_,λe=>by rw[ha]at e;cases e⟩
    ·rw[aL,r!];exact W
    ·rw[aL,a9];exact S
    ·have:=(ajV (n:=k+1) (by omega)).1;rw[n!,ar];omega
 ·rintro fr g ⟨Q,L1,f0,p,G,b,ae,u⟩;obtain⟨m1,au⟩:∃m1,m1=yL now m:=⟨_,rfl⟩
  have a0:∀x∈m1,x∈m:=λx hx=>by rw[au]at hx;exact(List.mem_filter.1 hx).1
  have be:m1.length<=m.length:=by rw[au];exact List.length_filter_le _ _
  rw[<-au]at u⊢;have P1:=u.vk.vw.ld (q:=1) (x:=Q) rfl;have ln:=u.vk.rws.len g;simp only[vvB,seval,aqU,f0,P1,ln];refine Oc.then (dK (σ:=Unit) (n:=m1.length) (pi:=78) (pn:=77) (pc:=79) [0,7,9,10,76] (λ_=> [X pv 0,X h.next 0,X l.next 0,.func (.func Ci) .nil (.cons (X l.next 0) .nil),Q]) (λk _ g'=>Nw g g')
   (A:=λfr g'=>fr.get (a! 0)=some (X pv 0)/\fr.get (a! 7)=some (X h.next 0)/\fr.get (a! 9)=some (X l.next 0)/\Nw g g') (B:=λ_ _=>False) (s:=())
   (λfr h _ k e1 e2=>by simp only[vvB,seval,aqT,e1,e2]) (λfr h k _ e1=>by simp(disch:=omega)only[vvB,seval,aqS,e1]) (by decide) (by rw[dO];omega) (qK0) (qK0) (by simp only[Fa,vvB,seval,f0,p,G,b,and_self]) (Nw.refl _) ?_ ?_) ?_ ?_
  ·intro k _ fr g' hk ah aD fa c;obtain⟨f0,p,G,b,ag,-⟩:=fa;obtain⟨x,hx⟩:∃x,m1[k]?=some x:=⟨_,g! hk⟩
   have u':=u.nw c;obtain⟨i,q,cs,ix,ex,-,-,-,-,lN⟩:=u'.vk.rws.elt hx;obtain rfl:cs=mgC x:=ex;have C:=lN g' rfl;obtain⟨w,an⟩:∃w,w=g'.new (O (N tVm true) (mgC x)):=⟨_,rfl⟩
   have S2:aQ 3 (X g'.next 0) (.agg (V.ofList (mgC x))) (g'.new (O (N tVm true) zVm))=D V.undef w:=by rw[an];exact ig (V.dG _) rfl rfl
   have al:Nw g' w:=by rw[an];exact Nw.new _ _
   have k2:Kn w g'.next (O (N tVm true) (mgC x)):=by rw[an];exact Kn.new _ _
   have u2:=u'.nw al;obtain⟨d,cs,f,e4,c4,ac,hf,hy⟩:=aeO u2.cell u2.rows (by omega) x;have t:dI Zq (.func (.func Ci) .nil (.cons (X l.next 0) .nil)) [.agg (V.ofList (mgC x))] w=D (.tuple (.cons (.agg (V.ofList cs)) (.cons (K f) .nil))) d:=e4;obtain⟨g4,ao⟩:∃g4,g4=d.new (O (N tTh true) cs):=⟨_,rfl⟩
   have S5:=aEY ac d;rw[<-ao]at S5;have c5:Nw d g4:=by rw[ao];exact Nw.new _ _
   have k4:Kn g4 d.next (O (N tTh true) cs):=by rw[ao];exact Kn.new _ _
   have N2:=k2.ldN (n:=3) rfl;cases ad:f with
   |false=>
    rw[ad]at t;simp(disch:=omega)only[vvB,seval,afY,afX,afW,ag,ah,b,ix,C,S2,N2,t,S5];exact⟨qK2 ah,qK2 aD,(),by simp only[Fa,vvB,seval,f0,p,G,b,ag,and_self],((c.trans al).trans c4).trans c5⟩
   |true=>
    rw[ad]at t hf;obtain⟨y,a1⟩:∃y,oJ now x=some y:=Option.isSome_iff_exists.1 hf.symm;obtain⟨av,aw,a6⟩:=hy y a1;rw[a6]at k4;have ar:=hq x (a0 x (q! hx)) y a1;have P:(y.2.mod>x.told)=False:=eq_false (by omega);have T2:=((k2.nw c4).nw c5).ld (q:=2) (x:=X x.at_ 0) rfl;have a5:=Wl (n:=x.told) (((u2.vk.told x (q! hx)).nw c4).nw c5) (q:=0) rfl;have M7:=k4.ld (q:=7) (x:=iV y.2.mod) rfl;have cM:∀{k:Out},chk (λh=>aF (X d.next 7) h) (iV y.2.mod) k 1 [g4]=k:=uS rfl M7;simp(disch:=omega)only[vvB,seval,afY,afX,afW,ag,ah,b,ix,C,S2,N2,t,S5,T2,a5,Nat.reduceAdd,M7,cM,P];exact⟨qK2 ah,qK2 aD,(),by simp only[Fa,vvB,seval,f0,p,G,b,ag,and_self],((c.trans al).trans c4).trans c5⟩
  ·intro _ fr g' fa c;obtain⟨f0,p,G,-⟩:=fa;exact⟨f0,p,G,c⟩
  ·rintro fr w ⟨f0,p,G,c⟩;have u2:=u.nw c;have P2:=u2.vk.vw.ld (q:=1) (x:=Q) rfl;have Q2:=u2.vk.vw.ld (q:=2) (x:=iV had) rfl;have ba:=u2.vk.rws.len w;have R9:=u2.cell.ld (q:=0) (x:=r) rfl;have rl:=u2.rows.len w;simp only[vvB,seval,aqR,aqQ,f0,G,P2,Q2,ba,R9,rl];refine Oc.then (dK (σ:=Unit) (n:=now.length) (pi:=135) (pn:=134) (pc:=136) [0,7,18,19,133] (λ_=> [X pv 0,X h.next 0,iV had,Y U (m1.length:Int),r]) (λk _ g'=>Nw w g')
    (A:=λfr g'=>fr.get (a! 0)=some (X pv 0)/\fr.get (a! 7)=some (X h.next 0)/\fr.get (a! 19)=some (Y U (m1.length:Int))/\Nw w g') (B:=λ_ _=>False) (s:=())
    (λfr h _ k e1 e2=>by simp only[vvB,seval,aqP,e1,e2]) (λfr h k _ e1=>by simp(disch:=omega)only[vvB,seval,aqM,e1]) (by decide) (by rw[dO];omega) (qK0) (qK0) (by simp only[Fa,vvB,seval,f0,p,and_self]) (Nw.refl _) ?_ ?_) ?_ ?_
   ·intro k _ fr g' hk ak az fa c';obtain⟨f0,p,am,E,aj,-⟩:=fa;obtain⟨y,hy⟩:∃y,now[k]?=some y:=⟨_,g! hk⟩
    obtain⟨i,q,cs,ix,ex,ac,-,-,-,lN⟩:=(u2.nw c').rows.elt hy;obtain⟨av,aw,rfl,-,-⟩:=ex;have C:=lN g' rfl;obtain⟨d,M⟩:∃d,d=g'.new (O (N tTh true) (thC y av aw)):=⟨_,rfl⟩
    have S5:=aEY ac g';rw[<-M]at S5;have c5:Nw g' d:=by rw[M];exact Nw.new _ _
    have k3:Kn d g'.next (O (N tTh true) (thC y av aw)):=by rw[M];exact Kn.new _ _
    have Y0:=k3.ld (q:=0) (x:=iV y.1) rfl;have ar:=hh y (q! hy);have P:(y.1>had)=False:=eq_false (by omega);simp(disch:=omega)only[vvB,seval,aqO,aqN,aj,ak,am,ix,C,S5,Y0,P];exact⟨qK2 ak,qK2 az,(),by simp only[Fa,vvB,seval,f0,p,am,E,aj,and_self],c'.trans c5⟩
   ·intro _ fr g' fa c';obtain⟨f0,p,am,E,-⟩:=fa;exact⟨f0,p,E,c'⟩
   ·rintro fr g4 ⟨f0,p,E,c'⟩;have Z:=u2.nw c';have P4:=Z.vk.vw.ld (q:=1) (x:=Q) rfl;have a2:=Z.vk.rws.len g4;have P:(((m1.length:Nat):Int)>(m1.length:Int))=False:=eq_false (by omega);by_cases he:nZ now 0 m= []
    ·have S0:=aAh (L:=L1) ⟨Z.bd.get,Z.bd.hi⟩ (Z.nil he);simp only[vvB,seval,afV,afU,f0,p,E,P4,a2,P,S0];exact aW.ret (qT0) ⟨by rw[he],Q,Z.vk,Z.ch⟩
    ·have hg:=ake now m 0 (by omega);obtain⟨g5,e5,c5,n5⟩:=ad8 Z.bd he hg.2 (by omega);simp only[vvB,seval,afV,afU,f0,p,E,P4,a2,P,e5];refine aW.ret (qT0) ⟨rfl,Q,Z.vk.ch c5 λj q o=>?_,Z.ch.trans c5 λj hj o=>?_⟩
     ·have:=aa j q;have:=(o.1.from Z.bd _).1;omega
     ·have:=(o.1.from Z.bd _).1;omega
   ·intro fr g q;exact q.elim
  ·intro fr g q;exact q.elim
 ·intro fr g q;exact q.elim
end
end Go.Proofs.Im
namespace Go.Im
abbrev okS:List Nat:= [79,75]
abbrev al4:List Nat:= [100,111,110,101]
abbrev agQ:List Nat:= [79,75,32,100,111,110,101]
def okT(d tx:List Nat):List Nat:=if tx= [] then lineS [d,agQ] else lineS [d,okS,[91]++tx++ [93],al4]
def ajP(A:Acc):Option (Int×Int×List (Int×Int×Int))->Option (Int×Int×List (Int×Int×Int))
 |none=>none
 |some (box,had,l)=>some (box,had,l.filter λx=>((Wn A.mails box).find? λy=>decide (y.1=x.1)&&decide (y.2.id=x.2.1)).isSome)
def DU(now:List (Int×Ml)):Nat->List (Int×Int×Int)->List Nat
 |_,[]=> []
 |i,x::l=>if((now.find? λy=>decide (y.1=x.1)&&decide (y.2.id=x.2.1)).isSome)=true then DU now (i+1) l else Ee (i+1) [nV]++DU now i l
def Ox(A:Acc):Option (Int×Int×List (Int×Int×Int))->List Nat
 |none=> []
 |some (box,had,l)=>DU (Wn A.mails box) 0 l
def amu(A:Acc)(ks:Int×Int×List (Int×Int×Int)):Prop:=∀x∈ks.2.2,((Wn A.mails ks.1).find? λy=>decide (y.1=x.1)&&decide (y.2.id=x.2.1)).isSome=true
structure CanUpd (A:Acc) (ks:Int×Int×List (Int×Int×Int)):Prop where
 small:A.Small
 few:ks.2.2.length<50
 sorted:(Wn A.mails ks.1).Pairwise λx y=>x.1<y.1
 few2:(Wn A.mails ks.1).length<50
 old:∀x∈ks.2.2,∀y,(Wn A.mails ks.1).find? (λy=>decide (y.1=x.1)&&decide (y.2.id=x.2.1))=some y->y.2.mod<=x.2.2
 had:∀y∈Wn A.mails ks.1,y.1<=ks.2.1
theorem aoK(now:List (Int×Ml)):∀(l:List Mg) (i:Nat),nZ now i l=DU now i (l.map mgK)
 | [],i=>rfl
 |x::l,i=>by
  show(if(oJ now x).isSome=true then nZ now (i+1) l else Ee (i+1) [nV]++nZ now i l)=_;rw[aoK now l (i+1),aoK now l i];rfl
theorem aHT(now:List (Int×Ml))(l:List Mg):(yL now l).map mgK=(l.map mgK).filter λx=>(now.find? λy=>decide (y.1=x.1)&&decide (y.2.id=x.2.1)).isSome:=by
 induction l with
 |nil=>rfl
 |cons x l a=>
  rw[alW,o!,z!];show List.map mgK (if(oJ now x).isSome=true then _ else _)=if(oJ now x).isSome=true then _ else _;split
  ·rw[o!,a]
  ·exact a
end Go.Im
namespace Go.Proofs.Im
section
variable{bb:Nat}{h h' g h0:Hp}{P F I J Z:Pos->Prop}{ps pl ib pv ir pc im a0:Pos}{cb:Cap}{fb uid only last bare part:Bool}{vm vl vv vw:V}{had:Int}{st:Sn}{L:List V}{s d tx:List Nat}{w:Wds}{ks:Int×Int×List (Int×Int×Int)}{f n:Nat}{b:Bx}{m:List Mg}
def WE(h0:Hp)(Z:Pos->Prop)(h:Hp)(pc im ps:Pos)(st:Sn):Prop:=
 ∃F J pl ib cb fb vm vl vv I,World h pc im ps st F J pl ib cb fb vm vl vv I/\(∀j,Ft F J pc im j->Z j\/h0.next.nat<=j.nat)/\Ch Z h0 h
theorem Rq.we(q:Rq bb h0 Z h pc im ps ir uid w s st L vw P F J pl ib cb fb vm vl vv I):WE h0 Z h pc im ps st:=⟨F,J,pl,ib,cb,fb,vm,vl,vv,I,q.wd,q.foot,q.chz⟩
theorem auF(x y:V)(h:Hp):ZB [.bY,x,y] h=D (H []) h:=by
 rw[ara];simp only[vvB,seval,agp,akK,akJ,avl,ahL];simp only[aU,cO,vvB,seval,dn]
theorem Rq.upd{all:Bool}(q:Rq bb h0 Z h pc im ps ir uid w s st L vw P F J pl ib cb fb vm vl vv I)(v:∀ks,st.vw=some ks->CanUpd st.acc ks)(l:all=false->∀ks,st.vw=some ks->amu st.acc ks):
  ∃h',ZB [vv,X ps 0,K all] h=D (H (Ox st.acc st.vw)) h'/\Rq bb h0 Z h' pc im ps ir uid w s {st with vw:=ajP st.acc st.vw} L vw P F J pl ib cb fb vm vl vv I/\Ch J h h':=by
 have a:=q.wd.view;cases i:st.vw with
 |none=>
  rw[i]at a;refine⟨h,by rw[a.1];exact auF _ _ _,?_,Ch.refl _ _⟩;have:({st with vw:=ajP st.acc none}:Sn)=st:=by cases st;simp only[ajP]at i⊢;subst i;rfl
  rw[this];exact q
 |some ks=>
  have c:=v ks i;rw[i]at a;obtain⟨pv,vwr,m,rfl,vk,o⟩:=a;have u:m.length=ks.2.2.length:=by have:=congrArg F! o;simpa using this
  have t:=c.few;obtain⟨h',vw',e1,r,k⟩:=awW q.wd.acc c.small vk (by omega) c.sorted c.few2 (λx p y z=>c.old (mgK x) (by rw[<-o];exact x! p) y z) c.had λe x p=>l e ks i (mgK x) (by rw[<-o];exact x! p);have w':World h' pc im ps {st with vw:=ajP st.acc (some ks)} F J pl ib cb fb vm vl (X pv 0) I:=
   {acc:=q.wd.acc.ch k λj f=>(q.wd.fj j f).1
    con:=q.wd.con.ch k λj=>(q.wd.jn _ j).1 rfl
    map:=q.wd.map.ch k λj=>(q.wd.jn _ j).2 rfl
    view:=⟨pv,vw',yL (Wn st.acc.mails ks.1) m,rfl,r,by rw[aHT,o]⟩
    ne:=q.wd.ne
    fj:=q.wd.fj
    jn:=q.wd.jn}
  refine⟨h',?_,q.turn w' k (λj e=>.inr (.inl e)) λj e=>.inl e,k⟩;rw[e1,aoK,o];rfl
def doX:Go.Vm.F->Hp->Out:=aB (aB aaY (aT (.tmp 104) akA akz)) (aB aaX h!)
theorem aFI(b:Bool):eqV (K b) (K b)=true:=by cases b<;>rfl
theorem vU{l:List (List Nat)}(hl:∀t∈l,∀c∈t,c<256):∀c∈lineS l,c<256:=by
 have o:∀c∈dV [32] l,c<256:=by
  cases l with
  |nil=>intro c i;simp[dV]at i
  |cons a r=>
   intro x e;rw[AV,c!]at e;rcases e with e|e
   ·exact hl a (by simp) x e
   ·unfold yM at e;obtain⟨y,p,k⟩:=List.mem_flatten.1 e;obtain⟨t,j,rfl⟩:=D!.1 p;rcases c!.1 k with q|q
    ·simp at q;omega
    ·exact hl t (by simp[j]) x q
 intro c i;unfold lineS at i;rcases c!.1 i with q|q
 ·exact o c q
 ·simp at q;omega
theorem aCR(q:Rq bb h0 Z h pc im ps ir uid w s st L vw P F J pl ib cb fb vm vl vv I)(ka:Kn h a0 (O (N tA true) (anL 0 tx last bare part)))(na:¬OfB ir 5 L a0)(hs:s.length<=1000000)(C:∀c∈s,c<256)(v:d.length<=1000000)(k:∀c∈d,c<256)(hx:tx.length<=1000)(G:∀c∈tx,c<256)
  {fr:Go.Vm.F} (a:fr.get (a! 10)=some (X ir 0)) (e:fr.get (a! 11)=some (X a0 0)) (W:fr.get (a! 12)=some (H d)):
  aW e! [.tmp 8,.tmp 9] (λr h'=>r=.tuple (.cons (H (s++okT d tx)) (.cons (K (!last)) .nil))/\WE h0 Z h' pc im ps st) (doX fr h):=by
 have A1:=ka.ld (q:=1) (x:=H tx) rfl;have fin:∀{M:Hp} {S:List V} {t:List Nat} {fr:Go.Vm.F},Rq bb h0 Z M pc im ps ir uid w (s++t) st S vw P F J pl ib cb fb vm vl vv I->Kn M a0 (O (N tA true) (anL 0 tx last bare part))->¬OfB ir 5 S a0->t≠ []->t.length<=3000000->(∀c∈t,c<256)->fr.get (a! 10)=some (X ir 0)->fr.get (a! 11)=some (X a0 0)->
   aW e! [.tmp 8,.tmp 9] (λr h'=>r=.tuple (.cons (H (s++t)) (.cons (K (!last)) .nil))/\WE h0 Z h' pc im ps st) (aB aaX h! fr M):=by
  intro M S t fr u Q n2 aa ab E a e;obtain⟨h3,e3,c3,n3⟩:=ad8 u.bd (by simp[aa]) (λc i=>by rcases c!.1 i with q|q;exact C c q;exact E c q) (by simp;omega);have k3:=Q.ch c3 λo=>n2 o.1;have B2:=Q.ld (q:=2) (x:=K last) rfl;have B3:=k3.ld (q:=2) (x:=K last) rfl;simp(disch:=omega)only[vvB,seval,aaX,a,e,e3,B3,Kz (m:=λh=>aF (X a0 2) h) B2 (aFI last)];refine aW.ret (qT0) ⟨rfl,F,J,pl,ib,cb,fb,vm,vl,vv,I,u.wd.ch c3 λj f o=>u.dis j o.1 f,u.foot,u.chz.trans c3 λj hj o=>(u.ob j o.1).resolve_right (by omega)⟩
 unfold doX;by_cases z:tx= []
 ·have p:(tx= [])=True:=eq_true z;obtain⟨r2,M,S,e2,u,p2⟩:=q.say (el:=9) [d,agQ] (n:=2) rfl (by omega) (by simp[iU];omega) (by
   intro t v;simp at v;rcases v with rfl|rfl
   ·exact k
   ·decide) (.inr (by simp[dV])) (by simp[dV];omega)
  simp only[o!,E!]at e2;obtain⟨Q,n2⟩:=keepA p2 ka na;have ho:okT d tx=dV [32] [d,agQ]++ [13,10]:=by unfold okT;rw[if_pos z];rfl
  rw[ho];simp(disch:=omega)only[vvB,seval,aaY,akz,a,e,W,A1,p,aow,e2];have:=fin (fr:=(T.set (some (K false)) (a! 104) fr)) u Q n2 (by simp) (by simp[dV];omega) (λc i=>vU (l:= [d,agQ]) (by
   intro t v;simp at v;rcases v with rfl|rfl
   ·exact k
   ·decide) c i) (qK2 a) (qK2 e)
  simpa only[vvB,seval]using this
 ·have p:(tx= [])=False:=eq_false z;have Sa:∀(x y:List Nat) (g:Hp),x.length+y.length<4000000->aI .add .none (H x) (H y) g=D (H (x++y)) g:=λx y g hl=>gu (by omega);have S1:=λg=>Sa [91] tx g (by simp;omega);have S2:=λg=>Sa ([91]++tx) [93] g (by simp;omega);have B:∀t∈ [d,okS,[91]++tx++ [93],al4],∀c∈t,c<256:=by
   intro t v;simp only[List.mem_cons,List.not_mem_nil,or_false]at v;rcases v with rfl|rfl|rfl|rfl
   ·exact k
   ·decide
   ·intro c i;rw[c!,c!]at i;rcases i with(i|i)|i
    ·revert c;decide
    ·exact G c i
    ·revert c;decide
   ·decide
  obtain⟨r2,M,S,e2,u,p2⟩:=q.say (el:=9) [d,okS,[91]++tx++ [93],al4] (n:=4) rfl (by omega) (by simp[iU];omega) B (.inr (by simp[dV])) (by simp[dV];omega);simp only[o!,E!]at e2;obtain⟨Q,n2⟩:=keepA p2 ka na;have ho:okT d tx=dV [32] [d,okS,[91]++tx++ [93],al4]++ [13,10]:=by unfold okT;rw[if_neg z];rfl
  rw[ho];simp(disch:=omega)only[vvB,seval,aaY,akA,a,e,W,A1,p,S1,S2,aov,e2];have:=fin (fr:=(T.set (some (K true)) (a! 104) fr)) u Q n2 (by simp) (by simp[dV];omega) (λc i=>vU (l:= [d,okS,[91]++tx++ [93],al4]) B c i) (qK2 a) (qK2 e);simpa only[vvB,seval]using this
end
end Go.Proofs.Im
namespace Go.Im
abbrev noS:List Nat:= [32,78,79,32]
def yE(k:Int)(a tx s2:List Nat)(bare:Bool)(st2:Sn):List Nat:=if k=1 then a++noS++tx++ [13,10] else if bare=true then s2++okT a tx else s2++Ox st2.acc st2.vw++okT a tx
def Kw(k:Int)(bare:Bool)(st2:Sn):Sn:=if k=1\/bare=true then st2 else{st2 with vw:=ajP st2.acc st2.vw}
theorem akf(now:List (Int×Ml)):∀(l:List (Int×Int×Int)) (i:Nat),i+l.length<100->(DU now i l).length<=14*l.length/\∀c∈DU now i l,c<256
 | [],i,_=>⟨by simp[DU],λc a=>by simp[DU]at a⟩
 |x::l,i,h=>by
  simp only[y!]at h;unfold DU;split
  ·have:=akf now l (i+1) (by omega);exact⟨by simp;omega,this.2⟩
  ·have d:=akf now l i (by omega);have e:=ajV (n:=i+1) (by omega);refine⟨by simp;omega,λc a=>?_⟩;rcases c!.1 a with q|q
   ·exact e.2.1 c q
   ·exact d.2 c q
theorem aHp{A:Acc}{o:Option (Int×Int×List (Int×Int×Int))}(d:∀ks,o=some ks->CanUpd A ks):(Ox A o).length<=1000/\∀c∈Ox A o,c<256:=by
 cases o with
 |none=>exact⟨by simp[Ox],λc a=>by simp[Ox]at a⟩
 |some ks=>
  have h:=(d ks rfl).few;have:=akf (Wn A.mails ks.1) ks.2.2 0 (by omega);exact⟨by show(DU (Wn A.mails ks.1) 0 ks.2.2).length<=1000;omega,this.2⟩
end Go.Im
namespace Go.Proofs.Im
section
variable{bb:Nat}{h h' g h0:Hp}{P F I J Z S:Pos->Prop}{ps pl ib p ir pc im:Pos}{cb:Cap}{fb only last bare part:Bool}{v vm vl vv vw:V}{st st2:Sn}{L b:List V}{s s2 nm tx:List Nat}{w:Wds}{ks:Int×Int×List (Int×Int×Int)}{f n:Nat}{now:List (Int×Ml)}{m:List Mg}
theorem aCv{v c s:V}{n:Int}(e:v.cells= [v]/\gW v=true)(a:c.cells= [c]/\gW c=true)(d:s.cells= [s]/\gW s=true)(h:Hp):
  bU [.bY,.bY,Y U 0,.aO,K false,.bY,.aO] [(0,1,c),(1,1,s),(2,1,Y U n),(3,1,v)] h=D (.agg (.cons c (.cons s (.cons (Y U n) (.cons v (.cons (K false) (.cons .bY (.cons .aO .nil)))))))) h:=by
 unfold bU;simp only[QF,e.1,e.2,a.1,a.2,d.1,d.2];rfl
theorem aHR:liesAt e! e!.depth tRq (7 / e!.cellsOf tRq) 5 tBd 1=true:=kR
theorem aqB{c:List ResultVar}{Q a:V->Hp->Prop}{o:Out}(t:aW e! c Q o)(d:∀r h,Q r h->a r h):aW e! c a o:=by
 obtain⟨r,h,e,q⟩:=t;exact⟨r,h,e,d r h q⟩
theorem aeB(a l:V):(V.cons a l).list=a::l.list:=(rfl)
theorem aj8:V.nil.list= []:=(rfl)
theorem aGH:aBJ=(aB RF (aB (bG 0 (aB RD (aT (.tmp 13) (aB apv h!) (aB Rz (aT (.tmp 20) (aB apu h!) (aB Ry (aT (.tmp 24) (aB apt h!) k!))))))) (aB Rx (aB Rw (aB Rt (aB KT (aB (bG 1 (aB KR (aT (.tmp 66) (aB aa0 h!) (aB Uh (aT (.tmp 76) (aB akB h!) k!))))) (aB (aB Ug (aT (.tmp 88) aaZ k!)) doX)))))))):=rfl
theorem aj1(t:TypeId)(h:Hp):fE t [Y U 0,H [],K false,K false,K false] h=D (X h.next 0) (h.new (O (N t true) zAn)):=(rfl)
def Gz(pc im ps:Pos)(w:Wds)(nm:List Nat)(st:Sn)(b:List V)(s2:List Nat)(st2:Sn):Prop:=
 ∀(bb:Nat) (h0:Hp) (Z:Pos->Prop) (h:Hp) (ir:Pos) (L:List V) (vw:V) (P F J:Pos->Prop) (pl ib:Pos) (cb:Cap) (fb:Bool) (vm vl vv:V) (I:Pos->Prop),Rq bb h0 Z h pc im ps ir false w [] st L vw P F J pl ib cb fb vm vl vv I->
  ∃h' vw' P' w' a,ZC [X pc 0,X ir 0,H nm] h=D (.agg (V.ofList b)) h'/\Ep bb h0 Z vw' P' h' pc im ps ir a w' s2 st2
theorem aOl{g:Ln.Got}{x y:Wd}{kk now:Int}(W:World h pc im ps st F J pl ib cb fb vm vl vv I)(tw:WS P h vw g.words)(hP:∀j,P j->¬Ft F J pc im j)(hk:g.kind=1)(am:g.words.get? 0=some x)(a0:x.kind=1)(af:g.words.get? 1=some y)(a1:y.kind=1)
  (M:x.text.length<=1000000/\∀c∈x.text,c<256) (a3:y.text.length<=1000000/\∀c∈y.text,c<256) (bf:0<=st.cnt/\st.cnt<1000000) (aa:Gz pc im ps (g.words.drop 2) (foldM y.text) {st with cnt:=st.cnt+1} (anL kk tx last bare part) s2 st2)
  (aR:kk=0\/kk=1) (G:tx.length<=1000/\∀c∈tx,c<256) (ak:s2.length<=100000/\∀c∈s2,c<256) (hu:kk=0->bare=false->∀ks,st2.vw=some ks->CanUpd st2.acc ks) (hp:part=true->kk=0->bare=false->∀ks,st2.vw=some ks->amu st2.acc ks):
  ∃h',ahn [X pc 0,X ps 0,Y U now,.agg (.cons (Y U g.kind) (.cons vw .nil))] h=D (.tuple (.cons (H (yE kk x.text tx s2 bare st2)) (.cons (K (if kk=1 then true else !last)) .nil))) h'/\WE h (Ft F J pc im) h' pc im ps (Kw kk bare st2):=by
 obtain⟨k,C,c1,g1⟩:=mkW h (O (N aET true) [Y U g.kind,vw]);have n1:k.next.nat=h.next.nat+1:=by rw[C,bI]
 have ao:WS P k vw g.words:=tw.ch c1 λj _ q=>⟨q,λq=>q⟩
 have W1:=W.ch c1 λ_ _ q=>q;have G0:aF (X h.next 0) k=D (Y U 1) k:=by rw[<-hk];exact g1.ld rfl
 have G1:=g1.ld (q:=1) (x:=vw) rfl;have aE:QG g.words 0=true:=by unfold QG;rw[am];exact decide_eq_true a0
 have aL:QG g.words 1=true:=by unfold QG;rw[af];exact decide_eq_true a1
 have A0:DJ [vw,Y U 0] k=D (K true) k:=by have:=aeF ao 0;rwa[aE]at this
 have A1:DJ [vw,Y U 1] k=D (K true) k:=by have:=aeF ao 1;rwa[aL]at this
 have aj:2<=g.words.len:=by have:=Wds.Kq af;omega
 obtain⟨st1,d⟩:∃st1,st1=({st with cnt:=st.cnt+1}:Sn):=⟨_,rfl⟩
 rw[<-d]at aa;obtain⟨a,E⟩:∃a,a=k.put pc (some (O (N tCn true) [K st1.inn,vv,K st1.only,iV st1.cnt,.map im])):=⟨_,rfl⟩
 have i:ZE [X pc 3,Y U 1] k=D (Y U (st.cnt+1)) a:=by
  have:=awl W1.con (q:=3) (n:=st.cnt) (m:=1) rfl (by omega) (by omega);rw[E,d];exact this
 have W2:World a pc im ps st1 F J pl ib cb fb vm vl vv I:=by
  rw[E];exact W1.al8 (by rw[d]) (by rw[d];exact W1.view) λj q=>⟨λf=>(W1.fj j f).1 q,W1.jn j q⟩
 have c2:Ch (λj=>j=pc) k a:=by rw[E];exact Ch.put _ _ rfl
 have n2:a.next.nat=h.next.nat+1:=by rw[E,jI,n1]
 have ac:Ch (Ft F J pc im) h a:=(c1.ch (S:=Ft F J pc im)).trans (c2.mono λj _ e=>.inr (.inr (.inl e))) λ_ _ q=>q;have hZ:∀j,Ft F J pc im j->j.nat<h.next.nat:=W.lt;have g2:Kn a h.next (O (N aET true) [Y U g.kind,vw]):=g1.ch c2 λe=>by have:=hZ _ (.inr (.inr (.inl e)));omega
 have ap:WS P a vw g.words:=tw.ch ac λj _ q=>⟨q,hP j q⟩
 have G2:=g2.ld (q:=1) (x:=vw) rfl;obtain⟨v',es,ab⟩:=ap.from aj;have ad:∀h',eU 3 vw (some (Y U 2)) none none h'=D v' h':=es;obtain⟨t,B,c3,-⟩:=mkW a (O (N tRq true) [X pc 0,X ps 0,Y U now,v',K false,.bY,.aO]);have n3:t.next.nat=a.next.nat+1:=by rw[B,bI]
 have g3:t.get a.next=some (O (N tRq true) [X pc 0,X ps 0,Y U now,v',K false,.bY,.aO]):=by rw[B];exact dX _ _
 have d3:Bd a.next.nat t a.next 5 tRq [X pc 0,X ps 0,Y U now,v',K false,.bY,.aO] []:=
  ⟨j! _,by omega,g3,.inl rfl,⟨.aO,rfl,Ow.nil _ _ _ _,λj hj=>(by cases hj)⟩,aHR⟩
 have a8:WS P t v' (g.words.drop 2):=ab.ch c3 λj _ q=>⟨q,λq=>q⟩
 have ar:WS P t vw g.words:=ap.ch c3 λj _ q=>⟨q,λq=>q⟩
 have G3:=(g2.nw c3).ld (q:=1) (x:=vw) rfl;have B0:=aCv (v:=v') (c:=X pc 0) (s:=X ps 0) (n:=now) a8.cell ⟨rfl,rfl⟩ ⟨rfl,rfl⟩ a;obtain⟨P',aD,aq⟩:∃P':Pos->Prop,(∀j,P' j->j.nat<a.next.nat/\¬Ft F J pc im j)/\WS P' t v' (g.words.drop 2):=
  ⟨λj=>P j/\j.nat<a.next.nat,λj q=>⟨q.2,hP j q.1⟩,(ab.ch (P':=λj=>P j/\j.nat<a.next.nat) (Nw.refl a) λj hj q=>⟨⟨q,hj⟩,λq=>q⟩).ch c3 λj _ q=>⟨q,λq=>q⟩⟩
 obtain⟨j,q,vk,i1,i2,i3,i4,-⟩:=WS.at ar af;have ag:∀h',aX 3 vw (Y U 1) h'=D (X j q) h':=i1;have ah:aF (X j (q+1)) t=D (H y.text) t:=i3;obtain⟨rf,h4,e4,rfl,c4⟩:=SS (h:=t) (by omega) a3.2;have ax:Nw t h4:=c4;have q3:Rq a.next.nat a (Ft F J pc im) t pc im ps a.next false (g.words.drop 2) [] st1 [X pc 0,X ps 0,Y U now,v',K false,.bY,.aO] v' P' F J pl ib cb fb vm vl vv I:=
  {bd:=d3
   hbb:=j! _
   ob:=λj o=>.inr (o.from d3 _).1
   l0:=rfl
   l1:=rfl
   l3:=rfl
   l4:=rfl
   ws:=aq
   wd:=W2.ch c3 λ_ _ q=>q
   dis:=λj o f=>by have:=(o.from d3 _).1;have:=hZ j f;omega
   old:=aD
   foot:=λj f=>.inl f
   chz:=c3.ch}
 obtain⟨h5,be,P5,w5,au,e5,r5⟩:=aa _ _ _ _ _ _ _ _ _ _ _ _ _ _ _ _ _ _ (q3.nw ax);obtain⟨L5,F5,J5,a7,a4,ay,az,bc,ba,av,I5,q5⟩:=r5;obtain⟨h7,aM,c7,k7⟩:=mkW h5 (O (N tA true) (anL kk tx last bare part));have S7:aQ 5 (X h5.next 0) (anV kk tx last bare part) (h5.new (O (N tA true) zAn))=D V.undef h7:=by rw[aM];exact ig (V.dG _) rfl rfl
 have q7:=q5.nw c7;have an:¬OfB a.next 5 L5 h5.next:=λo=>by have:=(o.from q5.bd _).2;omega
 have a6:¬Ft F5 J5 pc im h5.next:=λf=>by have:=q5.wd.lt _ f;omega
 have aw:Ch (Ft F J pc im) h h7:=ac.trans q7.chz λ_ _ q=>q;have a9:WS P h7 vw g.words:=tw.ch aw λj _ q=>⟨q,hP j q⟩
 have g7:Kn h7 h.next (O (N aET true) [Y U g.kind,vw]):=g2.ch q7.chz λf=>by have:=hZ _ f;omega
 have G7:=g7.ld (q:=1) (x:=vw) rfl;obtain⟨jt,qt,vt,t1,t2,t3,t4,-⟩:=WS.at a9 am;have ai:∀h',aX 3 vw (Y U 0) h'=D (X jt qt) h':=t1;have K0:=k7.ld (q:=0) (x:=Y U kk) rfl;have K1:=k7.ld (q:=1) (x:=H tx) rfl;have K3:=k7.ld (q:=3) (x:=K bare) rfl;have back:∀{h8:Hp} {s8:Sn},WE a (Ft F J pc im) h8 pc im ps s8->WE h (Ft F J pc im) h8 pc im ps s8:=λ⟨F,J,pl,ib,cb,fb,vm,vl,vv,I,w,hf,c⟩=>⟨F,J,pl,ib,cb,fb,vm,vl,vv,I,w,λj f=>(hf j f).imp id λl=>by omega,ac.trans c λ_ _ q=>q⟩
 rw[aG2,aGH]
 suffices T:aW e! [.tmp 8,.tmp 9] (λr h'=>r=.tuple (.cons (H (yE kk x.text tx s2 bare st2)) (.cons (K (if kk=1 then true else !last)) .nil))/\WE h (Ft F J pc im) h' pc im ps (Kw kk bare st2))
   (aB RF (aB (bG 0 (aB RD (aT (.tmp 13) (aB apv h!) (aB Rz (aT (.tmp 20) (aB apu h!) (aB Ry (aT (.tmp 24) (aB apt h!) k!))))))) (aB Rx (aB Rw (aB Rt (aB KT (aB (bG 1 (aB KR (aT (.tmp 66) (aB aa0 h!) (aB Uh (aT (.tmp 76) (aB akB h!) k!))))) (aB (aB Ug (aT (.tmp 88) aaZ k!)) doX)))))))
    (T.set (some (.agg (.cons (Y U g.kind) (.cons vw .nil)))) (a! 3) (T.set (some (Y U now)) (a! 2) (T.set (some (X ps 0)) (a! 1) (T.set (some (X pc 0)) (a! 0) T.nil)))) h) by
  obtain⟨r,h',e,rfl,w⟩:=T;exact⟨h',e,w⟩
 rcases aR with rfl|rfl
 ·have ae:(if(0:Int)=1 then true else !last)=!last:=if_neg (by decide);rw[ae];cases bare with
  |true=>
   have z:yE 0 x.text tx s2 true st2=s2++okT x.text tx:=by unfold yE;rw[if_neg (by decide),if_pos rfl]
   have u:Kw 0 true st2=st2:=by unfold Kw;rw[if_pos (.inr rfl)]
   rw[z,u];simp(disch:=omega)only[vvB,seval,RF,RD,Rz,Ry,Rx,Rw,Rt,KT,KR,Uh,Ug,aeB,aj8,<-C,fD,G0,G1,A0,A1,i,G2,ad,B0,<-B,G3,ag,ah,e4,e5,S7,G7,ai,t3,K0,K3,w!,l!];exact aqB (aCR q7 k7 an (by omega) ak.2 M.1 M.2 G.1 G.2 (qK0) (qK0) (qK0)) λr h' q=>⟨q.1,back q.2⟩
  |false=>
   have z:yE 0 x.text tx s2 false st2=s2++Ox st2.acc st2.vw++okT x.text tx:=by unfold yE;rw[if_neg (by decide),if_neg (by simp)]
   have u:Kw 0 false st2={st2 with vw:=ajP st2.acc st2.vw}:=by unfold Kw;rw[if_neg (by simp)]
   rw[z,u];have al:=hu rfl rfl;have C1:=q7.wd.con.ld (q:=1) (x:=av) rfl;have K4:=k7.ld (q:=4) (x:=K part) rfl;obtain⟨h8,e8,q8,c8⟩:=q7.upd (all:=!part) al λe=>hp (by simpa using e) rfl rfl;have k8:=k7.ch c8 λjj=>a6 (.inr (.inl jj));have a2:=aHp al;obtain⟨r9,h9,L9,e9,d9,p9,Q,l9⟩:=RI q8.bd (Ox st2.acc st2.vw) (by omega);have q9:Rq a.next.nat a (Ft F J pc im) h9 pc im ps a.next au w5 (s2++Ox st2.acc st2.vw) {st2 with vw:=ajP st2.acc st2.vw} L9 be P5 F5 J5 a7 a4 ay az bc ba av I5:=
    {bd:=d9
     hbb:=q8.hbb
     ob:=λj o=>(p9.sub j o).elim (q8.ob j) λl=>.inr (Nat.le_trans q8.chz.next l)
     l0:=by rw[Q 0 (by omega) (by omega)];exact q8.l0
     l1:=by rw[Q 1 (by omega) (by omega)];exact q8.l1
     l3:=by rw[Q 3 (by omega) (by omega)];exact q8.l3
     l4:=by rw[Q 4 (by omega) (by omega)];exact q8.l4
     ws:=q8.ws.ch p9.ch λj _ p=>⟨p,λo=>by have:=(q8.old j p).1;have:=(o.from q8.bd _).1;omega⟩
     wd:=q8.wd.ch p9.ch λj f o=>q8.dis j o f
     dis:=λj o f=>(p9.sub j o).elim (λo=>q8.dis j o f) λl=>by have:=q8.wd.lt j f;omega
     old:=q8.old
     foot:=q8.foot
     chz:=q8.chz.trans p9.ch λj hj o=>(q8.ob j o).resolve_right (by omega)}
   obtain⟨k9,a5⟩:=keepA p9 k8 an;simp(disch:=omega)only[vvB,seval,RF,RD,Rz,Ry,Rx,Rw,Rt,KT,KR,Uh,Ug,aaZ,aeB,aj8,<-C,fD,G0,G1,A0,A1,i,G2,ad,B0,<-B,G3,ag,ah,e4,e5,S7,G7,ai,t3,K0,K3,C1,K4,e8,e9,w!,l!];exact aqB (aCR q9 k9 a5 (by rw[n!];omega) (λc hc=>by rcases c!.1 hc with q|q;exact ak.2 c q;exact a2.2 c q) M.1 M.2 G.1 G.2 (qK0) (qK0) (qK0)) λr h' q=>⟨q.1,back q.2⟩
 ·have z:yE 1 x.text tx s2 bare st2=x.text++noS++tx++ [13,10]:=by unfold yE;rw[if_pos rfl]
  have u:Kw 1 bare st2=st2:=by unfold Kw;rw[if_pos (.inl rfl)]
  have ae:(if(1:Int)=1 then true else !last)=true:=if_pos rfl;rw[z,u,ae];have Sa:∀(x y:List Nat) (g:Hp),x.length+y.length<4000000->aI .add .none (H x) (H y) g=D (H (x++y)) g:=λx y g hl=>gu (by omega);have S1:=λg=>Sa x.text noS g (by simp;omega);have S2:=λg=>Sa (x.text++noS) tx g (by simp;omega);have S3:=λg=>Sa (x.text++noS++tx) [13,10] g (by simp;omega);simp(disch:=omega)only[vvB,seval,RF,RD,Rz,Ry,Rx,Rw,Rt,KT,KR,aa0,aeB,aj8,<-C,fD,G0,G1,A0,A1,i,G2,ad,B0,<-B,G3,ag,ah,e4,e5,S7,G7,ai,t3,K0,K1,S1,S2,S3,w!,l!];exact aW.ret (qT0) ⟨rfl,back q7.we⟩
end
section
variable{h h' g:Hp}{P F I J:Pos->Prop}{ps pl ib pc im i:Pos}{A B:Acc}{cb:Cap}{fb only u:Bool}{v vm vl vv vw:V}{st st2:Sn}{s:List Nat}{w:Wds}{k f n:Nat}
theorem Told.atN{P:Pos->Prop}{h:Hp}{v:V}{gs:List Ln.Got}(t:Told P h v gs){k:Nat}{g:Ln.Got}(e:gs[k]?=some g):
  ∃j q vw,(∀h',aX 2 v (Y U (k:Int)) h'=D (X j q) h')/\bT 2 (X j q) h=D (.agg (.cons (Y U g.kind) (.cons vw .nil))) h/\Tj P h vw g.words:=by
 obtain⟨cs,o,i,w⟩:=t;have c:k<gs.length:=(d!.1 e).1;obtain⟨a,vw,b,d⟩:=w.get e;obtain⟨j,q,e1,-,-,e2⟩:=o.sl.atN c;refine⟨j,q,vw,e1,?_,d⟩;rw[e2 h rfl];obtain⟨l0,x0⟩:=d!.1 a;obtain⟨l1,x1⟩:=d!.1 b;rw[i! l0,i! l1,x0,x1];rfl
def yj(pc im ps:Pos)(g:Ln.Got)(st:Sn)(t:List Nat)(on:Bool)(a:Sn):Prop:=
 t.length<=2000000/\∀(h:Hp) (F J:Pos->Prop) (pl ib:Pos) (cb:Cap) (fb:Bool) (vm vl vv:V) (I:Pos->Prop) (P:Pos->Prop) (vw:V),World h pc im ps st F J pl ib cb fb vm vl vv I->WS P h vw g.words->(∀j,P j->¬Ft F J pc im j)->
  ∃h',ahn [X pc 0,X ps 0,Y U 0,.agg (.cons (Y U g.kind) (.cons vw .nil))] h=D (.tuple (.cons (H t) (.cons (K on) .nil))) h'/\WE h (Ft F J pc im) h' pc im ps a
inductive Alls (pc im ps:Pos):List Ln.Got->Sn->List Nat->Sn->Prop
 |nil (st:Sn):Alls pc im ps [] st [] st
 |go {g:Ln.Got} {gs:List Ln.Got} {st st1 st2:Sn} {t u:List Nat}:yj pc im ps g st t true st1->Alls pc im ps gs st1 u st2->Alls pc im ps (g::gs) st (t++u) st2
 |stop {g:Ln.Got} {gs:List Ln.Got} {st st1:Sn} {t:List Nat}:yj pc im ps g st t false st1->Alls pc im ps (g::gs) st t st1
theorem aEM{s t:List Nat}{gs:List Ln.Got}{st c:Sn}{d m:Pos->Prop}(W:World h pc im ps st d m pl ib cb fb vm vl vv I)(hG:Ik.aJ<=h.next.nat)(hF:Fed s gs)(ha:Alls pc im ps gs st t c):
  ∃h',UG [X pc 0,X ps 0,H s] h=D (H t) h'/\WE h (Ft d m pc im) h' pc im ps c:=by
 obtain⟨hl,aq,ag⟩:=hF;obtain⟨v,G,ad,y,E⟩:=ag h hG;have au:=y.next;have hZ:=W.lt;have af:EN (H s) (h.new Ik.rdO)=D (.slice h.next.succ 0 s.length (.un 1)) ((h.new Ik.rdO).new (.bytes (bys s))):=atc (by omega);have ac:ak6 [Y U 4000] h=D (X h.next 0) (h.new Ik.rdO):=Ik.aLB h;rw[axC]
 suffices T:aW e! [.tmp 6] (λr h'=>r=H t/\WE h (Ft d m pc im) h' pc im ps c) (abn (T.set (some (H s)) (a! 2) (T.set (some (X ps 0)) (a! 1) (T.set (some (X pc 0)) (a! 0) T.nil))) h) by
  obtain⟨r,h',e,rfl,w⟩:=T;exact⟨h',e,w⟩
 simp(disch:=omega)only[vvB,seval,abn,anq,anp,ano,ann,ac,af,ad];refine Oc.then (dW (n:=gs.length) (λ μ fr g=>∃(k:Nat) (acc u:List Nat) (si:Sn),fr.get (a! 0)=some (X pc 0)/\fr.get (a! 1)=some (X ps 0)/\fr.get (a! 7)=some v/\fr.get (a! 8)=some (H acc)/\fr.get (a! 9)=some (Y U (k:Int))/\
   k+μ=gs.length/\Alls pc im ps (gs.drop k) si u c/\acc++u=t/\acc.length<=k*2000000/\Told (λj=>h.next.nat<=j.nat/\j.nat<G.next.nat) g v gs/\G.next.nat<=g.next.nat/\
   ∃F J pl ib cb fb vm vl vv I,World g pc im ps si F J pl ib cb fb vm vl vv I/\(∀j,Ft F J pc im j->j.nat<h.next.nat\/G.next.nat<=j.nat)/\(∀j,Ft F J pc im j->Ft d m pc im j\/h.next.nat<=j.nat)/\Ch (Ft d m pc im) h g)
  (A:=λfr g=>fr.get (a! 8)=some (H t)/\WE h (Ft d m pc im) g pc im ps c) (B:=λ_ _=>False) (by rw[dO];omega) ?_ ?_) ?_ ?_
 ·exact⟨0,[],t,st,qK0,qK0,qK0,qK0,qK1,by omega,ha,rfl,by simp,E,j! _,d,m,pl,ib,cb,fb,vm,vl,vv,I,W.ch y (λ_ _ q=>q),λj f=>.inl (hZ j f),λj f=>.inl f,y.ch⟩
 ·rintro μ fr g ⟨k,acc,u,si,f0,f1,f7,Q,f9,hk,a,hu,ao,tg,ar,F,J,pl,ib,cb,fb,vm,vl,vv,I,w,b,z,cg⟩;by_cases hz:μ=0
  ·have ah:gs.length<=k:=by omega
   rw[v! ah]at a;cases a;rw[p!]at hu;subst hu;simp(disch:=omega)only[vvB,seval,QV,QL,f7,f9,Told.len tg];exact⟨rfl,qK2 Q,F,J,pl,ib,cb,fb,vm,vl,vv,I,w,z,cg⟩
  ·have Z:k<gs.length:=by omega
   have S:gs[k]?=some gs[k]:=g! Z;rw[i! Z]at a;generalize gs[k]=gk at S a;obtain⟨j,q,vw,i1,i2,wr⟩:=tg.atN S;have ap:k*2000000<=1000*2000000:=Nat.mul_le_mul_right _ (by omega);have next:∀{x:List Nat} {on:Bool} {s1:Sn},yj pc im ps gk si x on s1->∃o,ahn [X pc 0,X ps 0,Y U 0,.agg (.cons (Y U gk.kind) (.cons vw .nil))] g=D (.tuple (.cons (H x) (.cons (K on) .nil))) o/\x.length<=2000000/\Told (λj=>h.next.nat<=j.nat/\j.nat<G.next.nat) o v gs/\G.next.nat<=o.next.nat/\
     ∃F J pl ib cb fb vm vl vv I,World o pc im ps s1 F J pl ib cb fb vm vl vv I/\(∀j,Ft F J pc im j->j.nat<h.next.nat\/G.next.nat<=j.nat)/\(∀j,Ft F J pc im j->Ft d m pc im j\/h.next.nat<=j.nat)/\Ch (Ft d m pc im) h o:=by
    intro x on s1 hd;obtain⟨o,M,F',J',ak,aj,ab,ae,am,al,an,I',w3,p,L⟩:=hd.2 g F J pl ib cb fb vm vl vv I _ vw w wr.ws λj q f=>by have:=b j f;omega
    have n3:=L.next;refine⟨o,M,hd.1,tg.ch L λj _ q=>⟨q,λf=>by have:=b j f;omega⟩,by omega,F',J',ak,aj,ab,ae,am,al,an,I',w3,λj f=>(p j f).elim (b j) λl=>.inr (by omega),λj f=>(p j f).elim (z j) λl=>.inr (by omega),cg.trans L λj hj f=>(z j f).resolve_right (by omega)⟩
   cases a with
   |go hd C=>
    rename_i st1 x u1;obtain⟨o,M,ai,aa,n3,w3⟩:=next hd
    have S1:∀h,aI .add .none (H acc) (H x) h=D (H (acc++x)) h:=λh=>gu (by omega);simp(disch:=omega)only[vvB,seval,QV,QL,anm,aaL,aaK,aaJ,f0,f1,f7,Q,f9,Told.len tg,i1,i2,M,S1];exact⟨μ - 1,by omega,k+1,acc++x,u1,st1,qK2 f0,qK2 f1,qK2 f7,qK0,qK1,by omega,C,by rw[r!];exact hu,by rw[n!];omega,aa,n3,w3⟩
   |stop hd=>
    obtain⟨o,M,ai,aa,n3,F,J,pl,ib,cb,fb,vm,vl,vv,I,w3,-,p,L⟩:=next hd
    have S1:∀h,aI .add .none (H acc) (H u) h=D (H (acc++u)) h:=λh=>gu (by omega);simp(disch:=omega)only[vvB,seval,QV,QL,aaL,aaK,aaJ,f0,f1,f7,Q,f9,Told.len tg,i1,i2,M,S1];exact⟨rfl,qK2 hu,F,J,pl,ib,cb,fb,vm,vl,vv,I,w3,p,L⟩
 ·rintro fr g ⟨Q,w⟩;simp(disch:=omega)only[vvB,seval,anl,Q];exact aW.ret (qT0) ⟨rfl,w⟩
 ·intro fr g q;exact q.elim
end
end Go.Proofs.Im
namespace Go.Vm
section
variable{h:Hp}
theorem ldL{i:Pos}{wr:Wr}{l r:List V}{n:Nat}(a:h.get i=some (O wr (l++r)))(b:l.length=n):bT n (X i 0) h=D (.agg (V.ofList l)) h:=by
 show dQ h i (λ_ cs=>match gQ n (eP 0 cs) with|some l=>R.ok (V.agg (V.ofList l)) h|none=>.bad)=_;rw[dL (wr:=wr) (all:=l++r) (by rw[a];rfl)];rw[qw (cs:=l) (λf c=>by rw[Nat.zero_add,List.getElem?_append_left (by omega)]) b]
theorem aqe:∀{l m:List V},l.length=m.length->QA l m=some l
 | [],[],_=>rfl
 | [],_::_,h=>by cases h
 |_::_,[],h=>by cases h
 |a::l,b::m,h=>by
  show Option.casesOn (motive:=λ_=>Option (List V)) (QA l m) none (λr=>some (a::r))=_;rw[aqe (by simpa using h)]
theorem stL{i:Pos}{t:TypeId}{f:Bool}{l m:List V}{n:Nat}(c:h.get i=some (O (N t f) m))(e:l.length=m.length)(j:l.length=n):aQ n (X i 0) (.agg (V.ofList l)) h=D V.undef (h.put i (some (O (N t f) l))):=by
 have b:V.cells (.agg (V.ofList l))=l:=V.bW l;rw[wP c rfl (by rw[b,j,Nat.beq_refl]),b];show(match QA l m with|some a=>R.ok V.undef (h.put i (some (O (N t f) a)))|none=>.bad)=_;rw[aqe e]
end
end Go.Vm
namespace Go.Proofs.Im
theorem auh(x:V)(h:Hp):A7 e! JW x h=bT 9 x h:=kR
theorem aCW{h:Hp}{i:Pos}{wr:Wr}{l r:List V}(o:h.get i=some (O wr (l++r)))(hl:l.length=9)(hi:i.nat<h.next.nat):∃h',ase [X i 0] h=D (.agg (V.ofList l)) h'/\Ch (λ_=>False) h h':=by
 obtain⟨b,a⟩:∃b,b=h.new (O (N JW true) [(H []),(H []),(Y U 0),(Y U 0),(Y U 0),(Y U 0),(Y U 0),(Y U 0),(Y U 0)]):=⟨_,rfl⟩
 have k:Ch (λ_=>False) h b:=by rw[a];exact Ch.new _ _ _
 have m:b.get h.next=some (O (N JW true) [(H []),(H []),(Y U 0),(Y U 0),(Y U 0),(Y U 0),(Y U 0),(Y U 0),(Y U 0)]):=by rw[a];exact dX _ _
 have e:=ldL ((k.get i hi λq=>q).trans o) hl;have j:=stL (l:=l) m hl hl;have c:bT 9 (X h.next 0) (b.put h.next (some (O (N JW true) l)))=D (.agg (V.ofList l)) (b.put h.next (some (O (N JW true) l))):=ldL (r:= []) (by rw[kL,p!]) hl;rw[aGY];simp(disch:=omega)only[vvB,seval,aBF,azQ,azP,azO,<-a,fD,e,j];exact⟨b.put h.next (some (O (N JW true) l)),by simp only[aU,cO,vvB,seval,auh,c,dn],by rw[a];exact ag0 _ _ _⟩
end Go.Proofs.Im
namespace Go.Im
abbrev zQ:List V:= [H [117],H [112],iV 1000,iV 100,iV 1048576,iV 1073741824,iV 1073741824,iV 10000,iV 200]
end Go.Im
namespace Go.Proofs.Im
section
variable{bb:Nat}{h h' g h0:Hp}{P F I J Z:Pos->Prop}{ps pl ib ir pc im i:Pos}{cb:Cap}{fb uid only u last bare part:Bool}{v vm vl vv vw:V}{st st2:Sn}{L d:List V}{s s2 nm tx:List Nat}{w:Wds}{ks:Int×Int×List (Int×Int×Int)}{f n:Nat}
theorem aBB(q:Rq bb h0 Z h pc im ps ir uid w s st L vw P F J pl ib cb fb vm vl vv I)(aa:w.len=2)(ak:oz w= [[117],[112]])(aj:Gj w=false):
  ∃h',asf [X pc 0,X ir 0] h=D (anV 0 [] false false false) h'/\Ep bb h0 Z vw P h' pc im ps ir uid w s {st with inn:=true}:=by
 obtain⟨h1,ah,c1,k1⟩:=mkW h (O (N tA true) zAn);have q1:=q.nw c1;have am:¬OfB ir 5 L h.next:=λo=>by have:=(o.from q.bd _).2;omega
 have an:¬Ft F J pc im h.next:=λo=>by have:=q.wd.lt _ o;omega
 obtain⟨r2,S,e2,c2,hN⟩:=aty (n:=2) q1.bd q1.l3 q1.ws (by omega);have ag:abV [X ir 0,Y U 2] h1=D r2 S:=e2;obtain⟨v,rfl,ov,B⟩:∃v,r2=.tuple (.cons v (.cons (K true) .nil))/\Ow 0 S 9 1 v 2 ([[117],[112]].map H)/\∀j,bC v=some j->h1.next.nat<=j.nat:=by
  rcases hN with⟨hL,-⟩|⟨-,v,rfl,ov,B⟩
  ·rw[aj]at hL;cases hL
  ·rw[aa,ak]at ov;exact⟨v,by rw[decide_eq_true aa],ov,B⟩
 obtain⟨G,fv,hv,kv,ao⟩:∃G fv,v=.slice G 0 2 (.un 1)/\Kn S G (O (N 9 fv) [H [117],H [112]])/\h1.next.nat<=G.nat:=by
  rcases ov.is with⟨h0,_⟩|⟨i,e,hb,hi,f,hg⟩
  ·omega
  ·exact⟨i,f,e,⟨hg,hi⟩,B i (by rw[e];rfl)⟩
 have ab:∀g,aX 1 v (Y U 0) g=D (X G 0) g:=λg=>by rw[hv];rfl
 have ac:∀g,aX 1 v (Y U 1) g=D (X G 1) g:=λg=>by rw[hv];rfl
 have Q:Nw h1 S:=c2;have q2:=q1.nw Q;have R1:=q2.kr.ld q2.l1;have W:=q2.wd.acc.st;obtain⟨C,e3,c3⟩:=aCW (l:=zQ) (r:=(stC st.acc ib cb vm pl).drop 9) W.1 rfl W.2;have af:Nw S C:=c3;obtain⟨k,p⟩:∃k,k=C.new (O (N JW true) zQ):=⟨_,rfl⟩
 have S4:aQ 9 (X C.next 0) (.agg (V.ofList zQ)) (C.new (O (N JW true) [(H []),(H []),(Y U 0),(Y U 0),(Y U 0),(Y U 0),(Y U 0),(Y U 0),(Y U 0)]))=D V.undef k:=by rw[p];exact ig (V.dG _) rfl rfl
 have c4:Nw C k:=by rw[p];exact Nw.new _ _
 have k4:Kn k C.next (O (N JW true) zQ):=by rw[p];exact Kn.new _ _
 have c:=af.trans c4;have U0:=k4.ld (q:=0) (x:=H [117]) rfl;have U1:=k4.ld (q:=1) (x:=H [112]) rfl;have ad:=(kv.nw c).ld (q:=0) (x:=H [117]) rfl;have ae:=(kv.nw c).ld (q:=1) (x:=H [112]) rfl;have M:=q2.nw c;have al:=(k1.nw Q).nw c;obtain⟨b,a⟩:∃b,b=({st with inn:=true}:Sn):=⟨_,rfl⟩
 obtain⟨m,t⟩:∃m,m=k.put pc (some (O (N tCn true) [K b.inn,vv,K b.only,iV b.cnt,.map im])):=⟨_,rfl⟩
 have S5:aQ 1 (X pc 0) (K true) k=D V.undef m:=by rw[t,a];exact M.wd.con.st (q:=0) (y:=K true) ⟨rfl,rfl⟩ (by simp)
 have w5:World m pc im ps b F J pl ib cb fb vm vl vv I:=by
  rw[t];exact M.wd.al8 (by rw[a]) (by rw[a];exact M.wd.view) λj q=>⟨λf=>(M.wd.fj j f).1 q,M.wd.jn j q⟩
 have c5:Ch (λj=>j=pc) k m:=by rw[t];exact Ch.put _ _ rfl
 have q5:=M.turn w5 c5 (λj e=>.inr (.inr (.inl e))) λj f=>.inl f;have ai:=q.wd.con.2;have k5:=al.ch c5 λe=>by rw[<-e]at ai;omega
 obtain⟨E,z⟩:∃E,E=m.put h.next (some (O (N tA true) (anL 0 [] false false false))):=⟨_,rfl⟩
 have S6:aQ 5 (X h.next 0) (anV 0 [] false false false) m=D V.undef E:=by rw[z];exact k5.stN rfl rfl
 have k6:Kn E h.next (O (N tA true) (anL 0 [] false false false)):=by rw[z];exact k5.put _
 have c6:Ch (λj=>j=h.next) m E:=by rw[z];exact Ch.put _ _ rfl
 have q6:=q5.alD c6 am an q.chz.next;refine⟨E,?_,by have:=q6.mk';rw[a]at this;exact this⟩;rw[aG3];simp(disch:=omega)only[vvB,seval,aBK,az8,az7,az6,az5,az4,az3,az2,<-ah,ag,R1,e3,S4,ab,ac,ad,ae,U0,U1,S5,aOZ,S6,eq_self];simp only[aU,cO,vvB,seval,Ei,k6.ldN (n:=5) rfl,dn]
theorem yj.cmd{g:Ln.Got}{x y:Wd}{kk:Int}(B:g.kind=1)(p:g.words.get? 0=some x)(k:x.kind=1)(q:g.words.get? 1=some y)(l:y.kind=1)
  (r:x.text.length<=1000000/\∀c∈x.text,c<256) (t:y.text.length<=1000000/\∀c∈y.text,c<256) (a:0<=st.cnt/\st.cnt<1000000) (b:Gz pc im ps (g.words.drop 2) (foldM y.text) {st with cnt:=st.cnt+1} (anL kk tx last bare part) s2 st2)
  (j:kk=0\/kk=1) (o:tx.length<=1000/\∀c∈tx,c<256) (m:s2.length<=100000/\∀c∈s2,c<256) (G:kk=0->bare=false->∀ks,st2.vw=some ks->CanUpd st2.acc ks) (E:(yE kk x.text tx s2 bare st2).length<=2000000) (C:part=true->kk=0->bare=false->∀ks,st2.vw=some ks->amu st2.acc ks:=by intro e;cases e):
  yj pc im ps g st (yE kk x.text tx s2 bare st2) (if kk=1 then true else !last) (Kw kk bare st2):=
 ⟨E,λh F J pl ib cb fb vm vl vv I P vw W M z=>aOl W M z B p k q l r t a b j o m G C⟩
theorem Gz.of{w:Wds}(a:nm≠asq)(c:Gn nm aaz=some (f,n,u))(j:atE n st)(b:∀(bb:Nat) (ir:Pos) (vw:V) (P:Pos->Prop),Cmd f bb pc im ps ir false w [] st vw P d s2 st2)(hl:d.length=5):Gz pc im ps w nm st d s2 st2:=
 λbb h0 Z h ir L vw P F J pl ib cb fb vm vl vv I q=>by
  obtain⟨h',e,r⟩:=run_go q a c j (b bb ir vw P) hl;exact⟨h',vw,P,w,false,e,r⟩
end
section
variable{h h' g:Hp}{P F I:Pos->Prop}{ps pl ib p cp i:Pos}{A:Acc}{cb:Cap}{fb only:Bool}{v vm vl:V}{id:Int}{k f n d:Nat}{b:Bx}
theorem auY(a:dJ h F ps A pl ib cb fb vm vl I)(j:A.Small){w:Wr}(m:Kn h cp (O w [X ps 0]))(l:A.boxes.findIdx? (λb=>decide (b.id=id))=some d):∃h',AA [iV id,X cp 0] h=D (K false) h'/\Nw h h':=by
 have L:=m.ld (q:=0) (x:=X ps 0) rfl;obtain⟨e,e1,c⟩:=aaF a j id;rw[l]at e1;simp only[gy]at e1;have hd:((d:Int)<0)=False:=eq_false (by omega);rw[an5];simp only[vvB,seval,Us,YM,YL,L,e1,hd];exact⟨e,by simp only[aU,cO,vvB,seval,dn],c⟩
theorem arj(p:Pos)(x:V)(g:Hp):dI pO (.func (.func Cj) .nil (.cons (X p 0) .nil)) [x] g=AA [x,X p 0] g:=(rfl)
theorem awO(p:Pos)(x:V)(g:Hp):dI pO (.func (.func MH) (.cons (X p 0) .nil) .nil) [x] g=Jh [X p 0,x] g:=(rfl)
theorem awZ(a:dJ h F ps A pl ib cb fb vm vl I)(hA:A.Small)(r:Rws P (flat fH) 1 h v [id])(hf:A.boxes.findIdx? (λb=>decide (b.id=id))=some d):
  ∃w h',Mc [X ps 0,v] h=D (.tuple (.cons w (.cons (K true) .nil))) h'/\Rws (λj=>h.next.nat<=j.nat) (flat fH) 1 h' w [id]/\Nw h h':=by
 obtain⟨G,s,l,k1⟩:=mkW h (O (N tPs true) [X ps 0]);have S:fO tPs (X ps 0) h=D (X h.next 0) G:=by rw[s];rfl
 obtain⟨w,h2,e2,r2,u,m⟩:=ajN (r.nw (aK _) l) (by simp);have m:=m.resolve_left (by simp);obtain⟨J,e3,Q,z⟩:=amw m (by simp);rw[Gl ltI (by simp)]at Q;have n1:=l.next;have n2:=u.next;have n3:=z.next;have c:Nw G J:=u.then z λj hj e=>by have:=(m.eY e).1;omega
 have t:=Q.rows (P':=λj=>h.next.nat<=j.nat) (aK _) (λ_ _ q=>q.elim) λj q _=>by omega
 have e4:=adL t (by simp);obtain⟨L,E,B⟩:=Ou t (aK _) (λ_=>false) (by simp) (f:=.func (.func Cj) .nil (.cons (X h.next 0) .nil)) (λx y g M C e=>by
  cases(show [y]= [Y U x] from e);simp at M;subst M;obtain⟨g',e6,Z⟩:=auY ((a.nw (l.trans c)).nw C) hA ((k1.nw c).nw C) hf;exact⟨g',by rw[arj];exact e6,Z⟩)
 have o:jD [w,.func (.func Cj) .nil (.cons (X h.next 0) .nil)] J=D (K false) L:=by
  have:([id].any λ_=>false)=false:=rfl;rw[this]at E;exact E
 have W:∀g,fC (.func Cj) [] [X h.next 0] g=D (.func (.func Cj) .nil (.cons (X h.next 0) .nil)) g:=λg=>rfl;rw[apJ];simp only[vvB,seval,Xk,acA,acz,acy,acw,acv,S,e2,e3,e4,W,o];exact⟨w,L,by simp only[aU,cO,vvB,seval,dn]<;>rfl,t.nw (aK _) B,(l.trans c).trans B⟩
theorem dJ.aFQ(a:dJ h F ps A pl ib cb fb vm vl I)(e:A.boxes[k]?=some b):∀g,g.get ib=h.get ib->∀f y,(gB b)[f]?=some y->aF (X ib (k*6+f)) g=D y g:=by
 have c:=(d!.1 e).1;obtain⟨i,q,cs,j,ex,-,-,-,ld,-⟩:=a.bxr.elt e;obtain rfl:cs=gB b:=ex;have:=j h;rw[lG c]at this;cases this;exact ld
theorem aBw(a:dJ h F ps A pl ib cb fb vm vl I)(u:A.Small)(w:A.boxes.findIdx? (λb=>decide (b.id=id))=some d)(m:A.boxes[d]?=some b)(z:b.next<=1000000):∃h',Jh [X ps 0,iV id] h=D (K false) h'/\Nw h h':=by
 obtain⟨l,e1,j⟩:=aaF a u id;rw[w]at e1;simp only[gy]at e1;have e:=(d!.1 m).1;have a1:=a.nw j;have L:=a.st.ld (q:=10) (x:=.slice ib 0 A.boxes.length cb) rfl;have o:=a1.st.ld (q:=10) (x:=.slice ib 0 A.boxes.length cb) rfl;have M:=a.st.ld (q:=5) (x:=iV 1073741824) rfl;have r:=a1.st.ld (q:=5) (x:=iV 1073741824) rfl;have y:=λg=>lG (sz:=6) (i:=ib) (c:=cb) e g;have ld:=a1.aFQ m l rfl 4 (iV b.next) rfl;have hd:(b.next>1073741824)=False:=eq_false (by omega);have s:∀{k:Out},chk (λh=>aF (X ps 10) h) (.slice ib 0 A.boxes.length cb) k 1 [h]=k:=uS a.bxr.noF L;have t:∀{k:Out},chk (λh=>aF (X ps 5) h) (iV 1073741824) k 1 [h]=k:=uS rfl M;rw[arB];simp only[vvB,seval,abe,aeT,aeS,e1,o,s,y,ld,r,t,hd];exact⟨l,by simp only[aU,cO,vvB,seval,dn],j⟩
theorem aIa(x:V)(h:Hp):A7 e! tMb x h=bT 2 x h:=kR
theorem aw0(a:dJ h F ps A pl ib cb fb vm vl I)(hA:A.Small)(W:A.boxes.findIdx? (λb=>decide (b.id=id))=some d)(u:A.boxes[d]?=some b)(hn:0<=b.next/\b.next<=1000000):
  ∃h',Me [X ps 0,iV id] h=D (.agg (V.ofList (dY (id,b.next)))) h'/\dJ h' F ps {A with boxes:=updB id (λb=>{b with next:=b.next+1}) A.boxes} pl ib cb fb vm vl I/\Ch (λj=>j=ib) h h':=by
 obtain⟨h1,C,M,k1⟩:=mkW h (O (N tMb true) [(Y U 0),(Y U 0)]);have a1:=a.nw M;obtain⟨B,e2,z⟩:=aaF a1 hA id;rw[W]at e2;simp only[gy]at e2;have a2:=a1.nw z;have t:=(d!.1 u).1;have L1:=a1.st.ld (q:=10) (x:=.slice ib 0 A.boxes.length cb) rfl;have L2:=a2.st.ld (q:=10) (x:=.slice ib 0 A.boxes.length cb) rfl;have cL:∀{k:Out},chk (λh=>aF (X ps 10) h) (.slice ib 0 A.boxes.length cb) k 1 [h1]=k:=uS a.bxr.noF L1;have ix:=λg=>lG (sz:=6) (i:=ib) (c:=cb) t g;have ld:=a2.aFQ u B rfl 4 (iV b.next) rfl;obtain⟨b',o⟩:∃b':Bx,b'={b with next:=b.next+1}:=⟨_,rfl⟩
 have L:=a2.aLR u (f:=4) (by omega) (y:=b.next+1) (b':=b') (by rw[o];rfl);obtain⟨l,r⟩:∃l,l=B.put ib (some (O (N tBx fb) ((A.boxes.set d b').map gB).flatten)):=⟨_,rfl⟩
 rw[<-r]at L;have a3:dJ l F ps {A with boxes:=A.boxes.set d b'} pl ib cb fb vm vl I:=by rw[r];exact a2.aHi (by rw[List.length_set])
 have Q:Ch (λj=>j=ib) B l:=by rw[r];exact Ch.put _ _ rfl
 have J:=a3.aFQ (k:=d) (b:=b') (by rw[List.getElem?_set_self t]) l rfl 4 (iV (b.next+1)) (by rw[o];rfl);have E:=a.bx.2;have k3:=(k1.nw z).ch Q λe=>by rw[<-e]at E;omega
 obtain⟨m,s⟩:∃m,m=l.put h.next (some (O (N tMb true) (dY (id,b.next)))):=⟨_,rfl⟩
 have S4:aQ 2 (X h.next 0) (.agg (V.ofList (dY (id,b.next)))) l=D V.undef m:=by rw[s];exact k3.stN rfl rfl
 have w:aQ 2 (X h.next 0) (.agg (.cons (Y U id) (.cons (Y U b.next) .nil))) l=D V.undef m:=S4;have k4:Kn m h.next (O (N tMb true) (dY (id,b.next))):=by rw[s];exact k3.put _
 have S:Ch (λj=>j=h.next) l m:=by rw[s];exact Ch.put _ _ rfl
 have a4:=a3.ch S λj f e=>by have:=a.lt j f;rw[e]at this;omega
 have G:updB id (λb=>{b with next:=b.next+1}) A.boxes=A.boxes.set d b':=by
  obtain⟨x,Z,e⟩:=ajQ (f:=λb:Bx=>{b with next:=b.next+1}) W;rw[u]at Z;cases Z;rw[e,o]
 have ad:∀g,aI .add .none (Y U b.next) (Y U 1) g=D (Y U (b.next+1)) g:=λg=>SE (by omega) (by omega);have sb:∀g,aI .sub .none (Y U (b.next+1)) (Y U 1) g=D (Y U b.next) g:=λg=>by
  rw[Z5 (by omega) (by omega)];congr 2;omega
 have NC:∀g,aP (X ib (d*6)) g=D (X ib (d*6)) g:=λg=>rfl;rw[apM];simp(disch:=omega)only[vvB,seval,Xn,acT,acS,acR,acQ,<-C,e2,L2,cL,ix,NC,ld,ad,L,J,sb,w];refine⟨m,by simp only[aU,cO,vvB,seval,aIa,k4.ldN (n:=2) rfl,dn],by rw[G];exact a4,?_⟩;exact((M.trans z).ch.trans Q λ_ _ q=>q).trans S λj hj e=>by rw[e]at hj;omega
theorem auZ(x:V)(h:Hp):Md [x,H []] h=D (iV 0) h:=by
 have e1:UB [H [],H [105,110,45,114,101,112,108,121,45,116,111]] h=D (H []) h:=zI (aFX _ _ _) h;have e2:dI ajE (.func (.func awo) .nil .nil) [H [],H [105,110,45,114,101,112,108,121,45,116,111]] h=D (H []) h:=e1;rw[apL];simp only[vvB,seval,Xm,acP,acO,acN,acM,acL,e2];simp only[aU,cO,vvB,seval,dn]
end
end Go.Proofs.Im
