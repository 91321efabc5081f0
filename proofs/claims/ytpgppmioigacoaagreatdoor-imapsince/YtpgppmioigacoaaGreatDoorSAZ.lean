/- Lemmas that the claim's last text uses. No conditions. -/
import Derived.Test.YtpgppmioigacoaaGreatDoorSAY
import Derived.Test.YtpgppmioigacoaaGreatDoorSAX
import Derived.Test.YtpgppmioigacoaaGreatDoorSAG
set_option linter.all false
set_option maxRecDepth 100000
open List renaming range→a!,getElem?_map→c!,getElem?_range→e!,map_append→g!,mem_map→h!,map_cons→i!,range_succ→k!,length_append→l!,mem_range→n!,mem_append→r!,map_nil→t!,getElem?_eq_some_iff→u!,drop_eq_getElem_cons→v!,getElem?_eq_getElem→w!,length_filter_le→x!,mem_of_getElem?→y!,filter_append→A!,filter_cons→C!,range'→D!,filter_nil→E!,getElem?_set_self→G!,getElem?_eq_none→H!,range_eq_range'→I!,getElem?_set_ne→J!,map_congr_left→K!,foldl_append→M!,ext_getElem?→N!,append_assoc→O!,take_length→Q!,range'_succ→R!,replicate→S!
open Go.Vm.Pos renaming of→b!
open Nat renaming reduceEqDiff→d!,add_zero→o!,le_refl→z!,le_trans→B!
open Go.Proofs.Tryz renaming prog→j!,underlying5→P!
open Go.Vm.Out renaming ret→p!,nor→q!
open Go.Vm.V renaming int→Y,ptr→X,bool→K,str→H
open Go.IntKind renaming i64→U
open Go.Vm.Ob renaming cells→O
open Go.Vm.Wr renaming rw→N
open Go.Vm.R renaming ok→D
noncomputable section
open Go Go.Vm Go.Ln Go.Proofs Go.Im Go.Proofs.Im Go.ChangeShapes Go.WideShapes Go.ChangeAt Go.RowKit
namespace Go.Im
def arS(y:Int×Int×Int)(now:List (Int×Ml)):Int:=now.foldl (λa z=>if z.1=y.1/\z.2.id=y.2.1 then z.2.mod else a) y.2.2
def Ls(A:Acc)(box:Int)(l:List (Int×Int×Int))(t:Nat):List (Int×Int×Int):=match l[t]? with|some y=>l.set t (y.1,y.2.1,arS y (Wn A.mails box))|none=>l
def tells(A:Acc)(box:Int)(l:List (Int×Int×Int))(fr:List (Int×Int×Ml)):List (Int×Int×Int):=fr.foldl (λl x=>Ls A box l (x.1 - 1).toNat) l
theorem aCb(A:Acc)(box:Int)(l:List (Int×Int×Int))(t:Nat):(Ls A box l t).length=l.length:=by
 unfold Ls;split
 ·rw[List.length_set]
 ·rfl
theorem ad4(A:Acc)(box:Int):∀(fr:List (Int×Int×Ml)) (l:List (Int×Int×Int)),(tells A box l fr).length=l.length
 | [],_=>rfl
 |x::fr,l=>by
  show(tells A box (Ls A box l (x.1 - 1).toNat) fr).length=_;rw[ad4 A box fr,aCb]
theorem alf(A:Acc)(box:Int)(l:List (Int×Int×Int)){fr:List (Int×Int×Ml)}{k:Nat}{x:Int×Int×Ml}(a:fr[k]?=some x):tells A box l (fr.take (k+1))=Ls A box (tells A box l (fr.take k)) (x.1 - 1).toNat:=by
 unfold tells;rw[Go.Vm.take_snoc a,M!];rfl
theorem aER{m:List Mg}{t:Nat}{x:Mg}(A:Acc)(box:Int)(a:m[t]?=some x):(m.set t {x with told:=DK x (Wn A.mails box)}).map mgK=Ls A box (m.map mgK) t:=by
 have h:(m.map mgK)[t]?=some (mgK x):=by rw[c!,a];rfl
 unfold Ls;rw[h,List.map_set];rfl
abbrev sQ:List Nat:= [77,79,68,73,70,73,69,68,32]
theorem aOY(b:Bool)(h:Hp):bU zAn [(4,1,K b)] h=D (anV 0 [] false false b) h:=(rfl)
def Run(l:List Int)(tx:List Nat):Prop:=(l= []/\tx= [])\/∃a n:Nat,l=(a! n).map (λk=>((a+k:Nat):Int))/\1<=a/\1<=n/\a+n<100/\tx=sQ++fM a n
end Go.Im
namespace Go.Proofs.Im
section
variable{h h' g h0:Hp}{P M G F I J Z S:Pos->Prop}{ps pl ib p pv ir pc im a3 d C:Pos}{A B:Acc}{cb:Cap}{fb uid only f:Bool}{v vm vl vv vw vk E:V}{l fr:List (Int×Int×Ml)}{L:List V}{s tx:List Nat}{w:Wds}{st:Sn}{bb:Nat}{ks:Int×Int×List (Int×Int×Int)}{x y:Int×Int×Ml}{left:List Int}{Q:Wr}{tl:TypeId}
theorem Rq.beside(q:Rq bb h0 Z h pc im ps ir uid w s st L vw P F J pl ib cb fb vm vl vv I)(c:Ch S h h')(a:∀j,S j->¬OfB ir 5 L j/\¬Ft F J pc im j/\h0.next.nat<=j.nat):Rq bb h0 Z h' pc im ps ir uid w s st L vw P F J pl ib cb fb vm vl vv I where
 bd:=q.bd.chO c λj o e=>(a j e).1 o
 l0:=q.l0
 l1:=q.l1
 l3:=q.l3
 l4:=q.l4
 ws:=q.ws.ch c λj _ b=>⟨b,λe=>by have:=(q.old j b).1;have:=q.hbb;have:=(a j e).2.2;omega⟩
 wd:=q.wd.ch c λj f e=>(a j e).2.1 f
 dis:=q.dis
 old:=q.old
 hbb:=q.hbb
 ob:=q.ob
 foot:=q.foot
 chz:=q.chz.trans c λj i e=>by have:=(a j e).2.2;omega
theorem Rq.told(q:Rq bb h0 Z h pc im ps ir uid w s st L vw P F J pl ib cb fb vm vl vv I)(hv:st.vw=some ks)(z:st.acc.Small)(hk:ks.2.2.length<=1000)(hs:(Wn st.acc.mails ks.1).Pairwise λx y=>x.1<y.1)(i:(Wn st.acc.mails ks.1).length<50){t:Nat}(ht:t<ks.2.2.length):
  ∃u h',Oa [vv,X ps 0,iV ((t:Int)+1)] h=D u h'/\Rq bb h0 Z h' pc im ps ir uid w s {st with vw:=some (ks.1,ks.2.1,Ls st.acc ks.1 ks.2.2 t)} L vw P F J pl ib cb fb vm vl vv I/\Ch J h h':=by
 have b:=q.wd.view;rw[hv]at b;obtain⟨pv,vwr,m,rfl,vk,r⟩:=b;have W:m.length=ks.2.2.length:=by have:=congrArg List.length r;simpa using this
 obtain⟨x,k⟩:∃x,m[t]?=some x:=⟨_,w! (by omega)⟩
 obtain⟨u,h',e,o,c⟩:=aC6 q.wd.acc z vk (by omega) hs i k;have n:=vk.foot.2.2 x (y! k);have a:Ch J h h':=c.mono λj _ e=>by rw[e];exact n
 have w':World h' pc im ps {st with vw:=some (ks.1,ks.2.1,Ls st.acc ks.1 ks.2.2 t)} F J pl ib cb fb vm vl (X pv 0) I:=
  {acc:=q.wd.acc.ch a λj f=>(q.wd.fj j f).1
   con:=q.wd.con.ch a λj=>(q.wd.jn _ j).1 rfl
   map:=q.wd.map.ch a λj=>(q.wd.jn _ j).2 rfl
   view:=⟨pv,vwr,_,rfl,o,by rw[aER _ _ k,r]⟩
   ne:=q.wd.ne
   fj:=q.wd.fj
   jn:=q.wd.jn}
 exact⟨u,h',e,q.turn w' a (λj e=>.inr (.inl e)) (λj e=>.inl e),a⟩
def asB:Go.Vm.F->Hp->Out:=(aB (aB OH (bG 1 (dH adK lf))) (aB D7 (aB (aB D6 (aT (.tmp 163) OG q!)) (aB D5 p!))))
theorem aCe{fm:Go.Vm.F}(q:Rq bb h0 Z g pc im ps ir uid w s st L vw P F J pl ib cb fb vm vl vv I)(hv:st.vw=some ks)(hA:st.acc.Small)(hk:ks.2.2.length<=1000)(hs:(Wn st.acc.mails ks.1).Pairwise λx y=>x.1<y.1)(az:(Wn st.acc.mails ks.1).length<50)
  (k4:Kn g d (O (N tA true) zAn)) (aw:¬(Ft F J pc im d\/OfB ir 5 L d)) (h4:h0.next.nat<=d.nat) (k3:Kn g a3 (O Q [X ir 0])) (n3:¬J a3) (kl:Kn g C (O (N tl f) [E])) (nl:¬J C) (rl:Rws G (flat fH) 1 g E left) (aD:∀j,G j->¬J j)
  (r:Rws M msE 10 g v l) (hl:l.length<=1000) (al:∀x∈l,∃y,((fQ st.acc.mails ks.1 0 ks.2.2).find? λy=>decide (y.1=x.1))=some y) (am:fr=sW (fQ st.acc.mails ks.1 0 ks.2.2) l) (aL:∀x∈fr,1<=x.1/\x.1<=ks.2.2.length) (ap:Run left tx)
  (f0:fm.get (b! 0)=some (X pc 0)) (f3:fm.get (b! 3)=some (X a3 0)) (f4:fm.get (b! 4)=some (X d 0)) (f6:fm.get (b! 6)=some v) (aa:fm.get (b! 12)=some (K true)) (c:fm.get (b! 17)=some (X C 0)):
  aW j! [.cell 4 tA] (RunT bb h0 Z vw P pc im ps ir uid w (anL 0 tx false false (!uid)) s {st with vw:=some (ks.1,ks.2.1,tells st.acc ks.1 ks.2.2 fr)}) (asB fm g):=by
 have K3:=k3.ld (q:=0) (x:=X ir 0) rfl;obtain⟨rv,g1,e1,o1,c1⟩:=q.fresh hv hA hk r hl al;rw[<-am]at o1;have ba:fr.length<=1000:=by
  rw[am];unfold sW;exact B! (List.length_filterMap_le _ _) hl
 have R:=o1.rws dD;have ln:=λh=>R.len h;have q1:=q.nw c1;have n1:=c1.next;have hJ:∀j,J j->j.nat<g.next.nat:=λj e=>q.wd.lt j (.inr (.inl e));unfold asB;simp only[vvB,seval,OH,f3,f6,K3,e1,ln];refine Oc.then (dK (σ:=Unit) (n:=fr.length) (pi:=129) (pn:=128) (pc:=130) [0,3,4,12,17,127] (λ_=> [X pc 0,X a3 0,X d 0,K true,X C 0,rv]) (λk _ g'=>Rq bb h0 Z g' pc im ps ir uid w s {st with vw:=some (ks.1,ks.2.1,tells st.acc ks.1 ks.2.2 (fr.take k))} L vw P F J pl ib cb fb vm vl vv I/\Ch J g1 g')
  (A:=λfm g'=>fm.get (b! 3)=some (X a3 0)/\fm.get (b! 4)=some (X d 0)/\fm.get (b! 17)=some (X C 0)/\Rq bb h0 Z g' pc im ps ir uid w s {st with vw:=some (ks.1,ks.2.1,tells st.acc ks.1 ks.2.2 fr)} L vw P F J pl ib cb fb vm vl vv I/\Ch J g1 g') (B:=λ_ _=>False) (s:=())
  (λfr h _ k e1 e2=>by simp only[vvB,seval,adp,e1,e2]) (λfr h k _ e1=>by simp(disch:=omega)only[vvB,seval,adk,e1]) (by decide) (by rw[dO];omega) (qK0) (qK0) (by simp only[Fa,vvB,seval,f0,f3,f4,aa,c,and_self]) ⟨?_,Ch.refl _ _⟩ ?_ ?_) ?_ ?_
 ·have:({st with vw:=some (ks.1,ks.2.1,tells st.acc ks.1 ks.2.2 (fr.take 0))}:Sn)=st:=by
   cases st;simp only[]at hv;subst hv;rfl
  rw[this];exact q1
 ·intro k _ fm b aM ae ak fa hI;obtain⟨f0,f3,f4,aa,c,ab,-⟩:=fa;obtain⟨q2,c2⟩:=hI;obtain⟨x,hx⟩:∃x,fr[k]?=some x:=⟨_,w! aM⟩
  obtain⟨bf,bg⟩:=aL x (y! hx);obtain⟨i,qq,cs,e2,ex,a9,-,-,-,e3⟩:=(R.ch (P':=λ_=>True) dD c2 λj _ pj=>⟨trivial,λe=>by have:=hJ j e;omega⟩).elt hx;have ay:=e3 b rfl;obtain⟨xk,xs,rfl,-,-⟩:=ex;obtain⟨z,m⟩:∃z,z=b.new (O (N tMs true) (msC x xk xs)):=⟨_,rfl⟩
  have S3:aQ 10 (X b.next 0) (.agg (V.ofList (msC x xk xs))) (b.new (O (N tMs true) zMs))=D V.undef z:=by rw[m];exact ig (V.dG _) rfl rfl
  have c3:Nw b z:=by rw[m];exact Nw.new _ _
  have k5:Kn z b.next (O (N tMs true) (msC x xk xs)):=by rw[m];exact Kn.new _ _
  have X0:=k5.ld (q:=0) (x:=iV x.1) rfl;have q3:=q2.nw c3;have a6:=((k3.nw c1).ch c2 n3).nw c3;have ac:=a6.ld (q:=0) (x:=X ir 0) rfl;have R1:=q3.kr.ld q3.l1;have C1:=q3.wd.con.ld (q:=1) (x:=vv) rfl;obtain⟨t,ht⟩:∃t:Nat,x.1=(t:Int)+1:=⟨(x.1 - 1).toNat,by omega⟩
  have a0:t<(tells st.acc ks.1 ks.2.2 (fr.take k)).length:=by rw[ad4];omega
  obtain⟨u,W,e4,q4,c4⟩:=q3.told (ks:=(ks.1,ks.2.1,tells st.acc ks.1 ks.2.2 (fr.take k))) rfl hA (by show(tells st.acc ks.1 ks.2.2 (fr.take k)).length<=1000;rw[ad4];exact hk) hs az a0;rw[ht]at X0;have be:vv.cells= [vv]/\gW vv=true:=q3.wd.view.cell;simp(disch:=omega)only[vvB,seval,ado,adn,adl,f0,f3,aa,ab,ae,e2,ay,S3,ac,R1,C1,X0,e4];refine⟨qK2 ae,qK2 ak,(),by simp only[Fa,vvB,seval,f0,f3,f4,aa,c,ab,and_self],?_,(c2.nw c3).trans c4 λ_ _ q=>q⟩;have aq:=alf st.acc ks.1 ks.2.2 hx
  have a1:(x.1 - 1).toNat=t:=by omega
  rw[a1]at aq;rw[aq];exact q4
 ·intro _ fm b fa hI;obtain⟨f0,f3,f4,aa,c,ab,-⟩:=fa;obtain⟨q2,c2⟩:=hI;rw[Q!]at q2;exact⟨f3,f4,c,q2,c2⟩
 ·rintro fm b ⟨f3,f4,c,q2,c2⟩;have ac:=((k3.nw c1).ch c2 n3).ld (q:=0) (x:=X ir 0) rfl;have R4:=q2.kr.ld q2.l4;have bc:=c2.next;have ax:¬J d:=λe=>aw (.inl (.inr (.inl e)));have ad:=(k4.nw c1).ch c2 ax;have a7:=(kl.nw c1).ch c2 nl;obtain⟨z,m⟩:∃z,z=b.new (O (N tA true) (anL 0 [] false false (!uid))):=⟨_,rfl⟩
  have S3:aQ 5 (X b.next 0) (anV 0 [] false false (!uid)) (b.new (O (N tA true) zAn))=D V.undef z:=by rw[m];exact ig (V.dG _) rfl rfl
  have c3:Nw b z:=by rw[m];exact Nw.new _ _
  have ar:Kn z b.next (O (N tA true) (anL 0 [] false false (!uid))):=by rw[m];exact Kn.new _ _
  have q3:=q2.nw c3;have L3:=(a7.nw c3).ld (q:=0) (x:=E) rfl;have av:=((rl.nw (aK _) c1).ch (P':=λ_=>True) (aK _) c2 λj _ p=>⟨trivial,aD j p⟩).nw (aK _) c3;have ll:=λh=>av.len h;have bA:=λh=>aOY (!uid) h;have an:=ad.2;rcases ap with⟨rfl,rfl⟩|⟨a,n,ao,ha,hn,aE,rfl⟩
  ·have eG:(((([]:List Int).length:Nat):Int)>0)=False:=eq_false (by simp);have ag:=ar.ldN (n:=5) rfl;obtain⟨W,ah⟩:∃W,W=z.put d (some (O (N tA true) (anL 0 [] false false (!uid)))):=⟨_,rfl⟩
   have S4:aQ 5 (X d 0) (anV 0 [] false false (!uid)) z=D V.undef W:=by rw[ah];exact(ad.nw c3).stN rfl rfl
   have a4:Kn W d (O (N tA true) (anL 0 [] false false (!uid))):=by rw[ah];exact(ad.nw c3).put _
   have c4:Ch (λj=>j=d) z W:=by rw[ah];exact Ch.put _ _ rfl
   have q4:=q3.alD c4 (λo=>aw (.inr o)) (λf=>aw (.inl f)) h4;simp(disch:=omega)only[vvB,seval,D7,D6,D5,f3,f4,c,ac,R4,bA,S3,L3,ll,eG,ag,S4];exact aW.ret (by simp only[cO,vvB,seval,f4,Ei,a4.ldN (n:=5) rfl,dn]) ⟨rfl,q4.mk'⟩
  ·have a8:left.length=n:=by rw[ao];simp
   have eG:(((left.length:Nat):Int)>0)=True:=eq_true (by omega);obtain⟨W,e4,c4⟩:=aBy av ao ha hn aE;have hT:(fM a n).length<=10:=by
    have q1:=(je (n:=a) (by omega)).1;have q2:=(je (n:=a+n - 1) (by omega)).1;unfold fM;split
    ·omega
    ·simp;omega
   have Add:aI .add .none (H [77,79,68,73,70,73,69,68,32]) (H (fM a n)) W=D (H (sQ++fM a n)) W:=gu (by simp;omega);have af:=ar.nw c4;have q4:=q3.nw c4;obtain⟨g5,ai⟩:∃g5,g5=W.put b.next (some (O (N tA true) (anL 0 (sQ++fM a n) false false (!uid)))):=⟨_,rfl⟩
   have S5:aQ 1 (X b.next 1) (H (sQ++fM a n)) W=D V.undef g5:=by rw[ai];exact af.st ⟨rfl,rfl⟩ (by show 1<5;omega)
   have a2:Kn g5 b.next (O (N tA true) (anL 0 (sQ++fM a n) false false (!uid))):=by rw[ai];exact af.put _
   have c5:Ch (λj=>j=b.next) W g5:=by rw[ai];exact Ch.put _ _ rfl
   have aR:d≠b.next:=λe=>by rw[e]at an;omega
   have hz:=q.chz.next;have q5:=q4.beside c5 λj e=>⟨λo=>by have:=(o.from q2.bd _).2;rw[e]at this;omega,λf=>by have:=q2.wd.lt j f;rw[e]at this;omega,by rw[e];omega⟩
   have ag:=a2.ldN (n:=5) rfl;obtain⟨g6,aj⟩:∃g6,g6=g5.put d (some (O (N tA true) (anL 0 (sQ++fM a n) false false (!uid)))):=⟨_,rfl⟩
   have au:=((ad.nw c3).nw c4).ch c5 aR;have S6:aQ 5 (X d 0) (anV 0 (sQ++fM a n) false false (!uid)) g5=D V.undef g6:=by rw[aj];exact au.stN rfl rfl
   have a5:Kn g6 d (O (N tA true) (anL 0 (sQ++fM a n) false false (!uid))):=by rw[aj];exact au.put _
   have c6:Ch (λj=>j=d) g5 g6:=by rw[aj];exact Ch.put _ _ rfl
   have q6:=q5.alD c6 (λo=>aw (.inr o)) (λf=>aw (.inl f)) h4;simp(disch:=omega)only[vvB,seval,D7,D6,OG,D5,f3,f4,c,ac,R4,bA,S3,L3,ll,eG,e4,Add,S5,ag,S6];exact aW.ret (by simp only[cO,vvB,seval,f4,Ei,a5.ldN (n:=5) rfl,dn]) ⟨rfl,q6.mk'⟩
 ·intro fr g q;exact q.elim
end
end Go.Proofs.Im
namespace Go.Im
def wE:El Wd:=λ_ _ x cs=>∃vk,cs=RJ x.kind x.text vk
theorem aB7:wE.Stable:=λe _ _=>e
theorem aN1(t:TypeId)(z:V):OB t [z]=some (O (N t true) [z],λp=>X p 0):=(rfl)
end Go.Im
namespace Go.Proofs.Im
section
variable{h h' g h0:Hp}{P P1 Pr F I J Z F2 I2 Q:Pos->Prop}{ps pl ib ir pc im a3 M nc lc:Pos}{A B C:Acc}{cb ab:Cap}{fb aa uid only f limit:Bool}{v vm vl vv vw vk lv S v2:V}{l fr:List (Int×Int×Ml)}{L:List V}{s s2 tx key:List Nat}{w E:Wds}{st:Sn}{bb top:Nat}{ks:Int×Int×List (Int×Int×Int)}{x d u xf:Wd}{n:Int}{w3:Wr}
theorem WS.aOw(t:WS P h v w)(hl:w.len=1)(h0:w.get? 0=some x):Rws P wE 3 h v [x]:=by
 obtain⟨cs,o,i,hi,at_⟩:=t;obtain⟨k,m,vk,p,-⟩:=WAt.get at_ h0;have e:cs.length=3:=by rw[o.len,hl]
 have j:cs=RJ x.kind x.text vk:=by
  obtain⟨a,b,c,rfl⟩:∃a b c,cs= [a,b,c]:=by
   match cs,e with
   | [a,b,c],_=>exact⟨a,b,c,rfl⟩
  simp at k m p;rw[k,m,p]
 refine⟨[cs],.cons ⟨vk,j⟩ .nil,λc i=>by simp at i;rw[i];exact e,?_,i,hi⟩;rw[hl]at o;simpa using o
theorem WS.atR{ws:Wds}{k:Nat}{x:Wd}(t:WS P h v ws)(e:ws.get? k=some x):
  ∃j q vk,(∀h',aX 3 v (Y U (k:Int)) h'=D (X j q) h')/\bT 3 (X j q) h=D (asg x.kind x.text vk) h/\Tj P h vk x.kids:=by
 obtain⟨cs,o,-,i,at_⟩:=t;have m:=Wds.Kq e;obtain⟨a,b,vk,c,r⟩:=WAt.get at_ e;obtain⟨j,q,e1,-,-,e2⟩:=o.atN m;refine⟨j,q,vk,e1,?_,r⟩;rw[e2 h rfl];obtain⟨l0,x0⟩:=u!.1 a;obtain⟨l1,x1⟩:=u!.1 b;obtain⟨p,y⟩:=u!.1 c;rw[v! l0,v! l1,v! p,x0,x1,y];rfl
theorem aw6(b:x.kind=1):∃g',Dz [.agg (V.ofList (RJ x.kind x.text vk))] g=D (K false) g'/\Nw g g':=by
 refine⟨g.new (O (N Bq true) (RJ x.kind x.text vk)),?_,Nw.new _ _⟩;have e1:=(Kn.new g (O (N Bq true) (RJ x.kind x.text vk))).ld (q:=0) (x:=Y U x.kind) rfl
 have c:=bxW Bq x.kind x.text vk g;have a:(x.kind=1)=True:=eq_true b;rw[apS];simp(disch:=omega)only[vvB,seval,Xq,adi,adh,V.bW,e1,a];simp only[aU,cO,vvB,seval,dn]
theorem aBm(x:V)(g:Hp):dI uw (.func (.func ZL) .nil .nil) [x] g=Dz [x] g:=(rfl)
theorem Rq.aLm(q:Rq bb h0 Z h pc im ps ir uid w s st L vw P F J pl ib cb fb vm vl vv I){y z:Pos->Prop}{p o:Pos}{k:Cap}{m:Bool}{t r:V}(a:dJ h' y ps C p o k m t r z)(c:Ch (λj=>j=ps) h h')(f3:∀j,y j->j=ps\/h.next.nat<=j.nat):
  Rq bb h0 Z h' pc im ps ir uid w s {st with acc:=C} L vw P y J p o k m t r vv z:=by
 have i:=q.wd.fj;have b:=q.wd.acc.foot.1;have w3:World h' pc im ps {st with acc:=C} y J p o k m t r vv z:=by
  refine⟨a,q.wd.con.ch c (λe=>(i _ b).2.1 e.symm),q.wd.map.ch c (λe=>(i _ b).2.2 e.symm),q.wd.view.ch c (λj f e=>(i _ b).1 (e▸f)),q.wd.ne,λj f=>?_,q.wd.jn⟩;rcases f3 j f with rfl|hl
  ·exact i _ b
  ·have W:=q.wd.con.2;have h2:=q.wd.map.2;exact⟨λG=>by have:=q.wd.view.lt j G;omega,λe=>by rw[e]at hl;omega,λe=>by rw[e]at hl;omega⟩
 refine q.turn w3 c (λj e=>.inl (by rw[e];exact b)) (λj f=>?_);rcases f with f|f|f|f
 ·rcases f3 j f with rfl|hl
  ·exact .inl (.inl b)
  ·exact .inr hl
 ·exact .inl (.inr (.inl f))
 ·exact .inl (.inr (.inr (.inl f)))
 ·exact .inl (.inr (.inr (.inr f)))
structure Stores (A:Acc) (ks:Int×Int×List (Int×Int×Int)) (uid limit:Bool) (n:Int) (key:List Nat) (l:List (Int×Int×Ml)) (C:Acc) (fr:List (Int×Int×Ml)) (tx:List Nat):Prop where
 small:A.Small
 few:ks.2.2.length<=1000
 len:l.length<=1000
 goes:Goes (aG9 [key]) A (l.filter λa=>!iD limit n a) C
 keys:∀x∈l,x.2.2.keys.length<=100
 smallC:C.Small
 sorted:(Wn C.mails ks.1).Pairwise λx y=>x.1<y.1
 few2:(Wn C.mails ks.1).length<50
 fnd:∀x∈l.filter λa=>!iD limit n a,∃y,((fQ C.mails ks.1 0 ks.2.2).find? λy=>decide (y.1=x.1))=some y
 fresh:fr=sW (fQ C.mails ks.1 0 ks.2.2) (l.filter λa=>!iD limit n a)
 at_:∀x∈fr,1<=x.1/\x.1<=ks.2.2.length
 run:Run ((l.filter (iD limit n)).map (nH uid)) tx
def RS:Go.Vm.F->Hp->Out:=(aB (aB O1 (aT (.tmp 64) (aB adu p!) q!)) (aB O0 (aB OZ (aB (aB OY (aT (.tmp 85) OX q!)) (aB OW (aB OV (aB (bG 0 (aB (aB OU (aT (.tmp 96) q! OT)) (aT (.tmp 96) (aB adt p!) (aB OQ (aT (.tmp 103) (aB ads p!) (aB OO (aT (.tmp 109) (aB adr p!) q!))))))) (aB OM (aB OL (aB OJ (aB (aB OI (aT (.tmp 122) (aB adq p!) q!)) asB)))))))))))
theorem arw:abp=(aB Aq (aB Ap (aB (aB Am (aT (.tmp 27) (aB TY p!) q!)) (aB Ak (aB Aj (aB Ai (aB (aB Ah (aT (.tmp 44) (aB IJ (aB II (aB D9 D8))) q!)) RS))))))):=rfl
theorem aCf{fm:Go.Vm.F}(q:Rq bb h0 Z g pc im ps ir uid w s st L vw P F J pl ib cb fb vm vl vv I)(hv:st.vw=some ks)(ho:st.only=false)(W:Stores st.acc ks uid limit n key l C fr tx)
  (k4:Kn g M (O (N tA true) zAn)) (aw:¬(Ft F J pc im M\/OfB ir 5 L M)) (h4:h0.next.nat<=M.nat) (k3:Kn g a3 (O w3 [X ir 0])) (ah:¬(Ft F J pc im a3\/OfB ir 5 L a3)) (kn:Kn g nc (O (N fZ true) [iV n])) (a1:Kn g lc (O (N tBl true) [K limit]))
  (t2:WS P1 g v2 E) (ax:E.len=2) (hm:E.get? 0=some d) (bk:d.kind=1) (bl:d.text.length<1000000000/\∀c∈d.text,c<256) (bj:foldM d.text= [43]++qB++aec) (hx:E.get? 1=some u) (br:u.kind=3) (av:u.kids.len=1) (ap:u.kids.get? 0=some xf) (al:xf.kind=1)
  (au:∀h,EH [H xf.text] h=D (.tuple (.cons (H key) (.cons (K true) .nil))) h)
  (r:vO tMs 10 Pr msE g S l) (ac:∀j,Pr j->bC S≠some j/\j.nat<top/\¬Ft F J pc im j) (t:∀j,bC S=some j->j.nat<top/\M.nat<j.nat/\a3.nat<j.nat/\¬OfB ir 5 L j/\¬Ft F J pc im j) (b4:top<=nc.nat/\top<=lc.nat)
  (f0:fm.get (b! 0)=some (X pc 0)) (f3:fm.get (b! 3)=some (X a3 0)) (f4:fm.get (b! 4)=some (X M 0)) (f5:fm.get (b! 5)=some v2) (f6:fm.get (b! 6)=some S) (f7:fm.get (b! 7)=some (K true)) (f8:fm.get (b! 8)=some (X nc 0)) (f9:fm.get (b! 9)=some (X lc 0)):
  aW j! [.cell 4 tA] (RunT bb h0 Z vw P pc im ps ir uid w (anL 0 tx false false (!uid)) s {st with acc:=C,vw:=some (ks.1,ks.2.1,tells C ks.1 ks.2.2 fr)}) (RS fm g):=by
 have a4:=λh=>t2.len h;rw[ax]at a4;have bi:=kn.2;have am:=a1.2;obtain⟨jm,qm,b1,bu,aL⟩:=WS.atN t2 hm;have aE:∀h',aX 3 v2 (Y U 0) h'=D (X jm qm) h':=bu;rw[bk]at aL;obtain⟨g1,e1,c1⟩:=aD6 (h:=g) (vk:=b1) (.inl rfl) bl bj;obtain⟨g2,af⟩:∃g2,g2=g1.new (O (N tB true) [Y .u8 43]):=⟨_,rfl⟩
 have S2:aQ 1 (X g1.next 0) (Y .u8 ((43:Nat):Int)) (g1.new (O (N tB true) [Y .u8 0]))=D V.undef g2:=by rw[af];exact XG ⟨rfl,rfl⟩ (by decide)
 have c2:Nw g1 g2:=by rw[af];exact Nw.new _ _
 have a2:Kn g2 g1.next (O (N tB true) [Y .u8 43]):=by rw[af];exact Kn.new _ _
 have ai:=c1.trans c2;have bS:WS P1 g2 v2 E:=t2.ch ai λj _ q=>⟨q,λq=>q⟩
 obtain⟨v3,be,t3⟩:=bS.from (k:=1) (by omega)
 have aj:∀h',eU 3 v2 (some (Y U 1)) none none h'=D v3 h':=be;have a5:=λh=>t3.len h;rw[Wds.len_drop,ax]at a5;have bq:(E.drop 1).get? 0=some u:=by rw[Wds.sV];exact hx
 obtain⟨jl,ql,b0,bs,aD,cc,bt,a6⟩:=WS.at t3 bq;have az:∀h',aX 3 v3 (Y U 0) h'=D (X jl ql) h':=bs;rw[br]at aD;have tk:=a6.ws;obtain⟨rk,z,e3,o3,c3⟩:=aBC (key:=key) tk av ap (by rw[al];decide) au;obtain⟨g4,ag⟩:∃g4,g4=z.new (O (N tSS true) [rk]):=⟨_,rfl⟩
 have bn:=o3.cell;have S4:aQ 1 (X z.next 0) rk (z.new (O (N tSS true) [.aO]))=D V.undef g4:=by rw[ag];exact XG bn (by simp)
 have c4:Nw z g4:=by rw[ag];exact Nw.new _ _
 have a0:Kn g4 z.next (O (N tSS true) [rk]):=by rw[ag];exact Kn.new _ _
 have bc:=(ai.trans c3).trans c4;have bX:=(tk.ch (P':=P1) c3 λj _ q=>⟨q,λq=>q⟩).ch (P':=P1) c4 λj _ q=>⟨q,λq=>q⟩
 obtain⟨g5,e5,c5⟩:=adZ (WS.aOw bX av ap) aB7 (λ_=>false) (by simp) (f:=.func (.func ZL) .nil .nil) (λa cs g ha _ e _=>by
  obtain⟨vk,rfl⟩:=e;simp at ha;subst ha;rw[aBm];exact aw6 al)
 have e5:lI [b0,.func (.func ZL) .nil .nil] g4=D (K false) g5:=e5;have ae:=bc.trans c5;have q5:=q.nw ae;have C2:=q5.wd.con.ld (q:=2) (x:=K st.only) rfl;rw[ho]at C2;obtain⟨g6,bh,c6,bE⟩:=mkW g5 (O (N tIs true) [.aO]);have p:=ae.trans c6;have q6:=q.nw p;have cd:=ae.next;have ce:=p.next;have aM:=k3.nw p;have bw:=k4.nw p;have aq:=k3.2;have ar:=k4.2;have ad:a3≠g5.next:=λe=>by rw[e]at aq;omega
 have ay:M≠g5.next:=λe=>by rw[e]at ar;omega
 have an:=q.kr.2;have ao:ir≠g5.next:=λe=>by rw[e]at an;omega
 have hz:=q.chz.next;obtain⟨a7,g7,lv,e7,r7,c7,i7,bA,o7,cf⟩:=awX (n:=n) (limit:=limit) (r.nw dD p) (λj pj=>⟨(ac j pj).1,λe=>by have:=(ac j pj).2.1;rw[e]at this;omega,by have:=(ac j pj).2.1;omega⟩)
  (λj e=>by
   obtain⟨h1,h2,h3,h4,h5⟩:=t j e;exact⟨λq=>by rw[q]at h1;omega,λq=>by rw[q]at h1;omega,λq=>by rw[q]at h1;omega,λq=>by rw[q]at h3;omega,λq=>h4 (.inl q)⟩)
  W.len (a1.nw p) (kn.nw p) bE aM q6.kr q.l4 ⟨λe=>by rw[e]at am;omega,λe=>by rw[e]at bi;omega,ad,ao⟩
 have y:∀j,bC S=some j->j.nat<top:=λj e=>(t j e).1;have q7:=q6.beside c7 λj e=>by
  rcases e with e|e
  ·subst e;exact⟨λo=>by have:=(o.from q.bd _).2;omega,λf=>by have:=q.wd.lt _ f;omega,by omega⟩
  ·obtain⟨h1,h2,h3,bg,h5⟩:=t j e;exact⟨bg,h5,by omega⟩
 have aR:=aM.ch c7 λe=>e.elim ad λe=>by have:=(t _ e).2.2.1;omega
 have bx:=bw.ch c7 λe=>e.elim ay λe=>by have:=(t _ e).2.1;omega
 have bo:=a2.2;have bp:=a0.2;have n1:=c1.next;have n2:=c2.next;have n3:=c3.next;have n4:=c4.next;have n5:=c5.next;have n7:=c7.next;have bL:Kn g7 g1.next (O (N tB true) [Y .u8 43]):=((((a2.nw c3).nw c4).nw c5).nw c6).ch c7 λe=>by
  rcases e with e|e
  ·rw[e]at bo;omega
  ·have:=y _ e;omega
 have bM:Kn g7 z.next (O (N tSS true) [rk]):=((a0.nw c5).nw c6).ch c7 λe=>by
  rcases e with e|e
  ·rw[e]at bp;omega
  ·have:=y _ e;omega
 have bN:=(o3.rws (aK _)).mono (P':=λj=>g2.next.nat<=j.nat/\j.nat<z.next.nat) (aK _) λj hj q=>⟨q,hj⟩
 have bO:Rws (λj=>g2.next.nat<=j.nat) (flat fF) 1 g7 rk [key]:=(((bN.nw (aK _) c4).nw (aK _) c5).nw (aK _) c6).ch (aK _) c7 λj hj q=>⟨q.1,λe=>by
  have hq:=q.2;rcases e with e|e
  ·rw[e]at hq;omega
  ·have:=y _ e;have:=q.1;omega⟩
 have a9:=aR.ld (q:=0) (x:=X ir 0) rfl;obtain⟨g8,F8,ci,ca,b5,b6,cl,ck,I8,e8,a8,c8,ak⟩:=aBD (f:=.func (.func P9) .nil (.cons (X g1.next 0) (.cons (X z.next 0) .nil))) q7.wd.acc W.small (r7.rws dD) (B! (x! _ _) W.len) W.goes W.smallC q7.kr q7.l1
  (λB C' a cs g qs pl2 b9 F2 I2 ab aa b3 cj ha hR b cg b7 e=>by
   obtain⟨k,m,G,rfl⟩:=hR;obtain⟨Q,e⟩:=e;rw[aBl];obtain⟨bf,F3,b2,I3,e',a',c',f'⟩:=aru b e (bL.nw cg) (bM.nw cg) (bO.nw (aK _) cg) ⟨W.keys a (List.mem_filter.1 ha).1,by simp⟩ G;exact⟨bf,F3,b3,b2,I3,e',a',c',f'⟩)
 have q8:=q7.aLm a8 c8 ak;have b8:=q7.wd.acc.st.2;have i:Ft F J pc im ps:=.inl q.wd.acc.foot.1;have bv:=aR.ch c8 λe=>ah (.inl (by rw[e];exact i));have bz:=bx.ch c8 λe=>aw (.inl (by rw[e];exact i));have bm:ps.nat<g.next.nat:=q.wd.acc.st.2;have bB:=bA.ch c8 λe=>by rw[<-e]at bm;omega
 have ba:¬(Ft F8 J pc im M\/OfB ir 5 L M):=λe=>by
  rcases e with(e|e|e|e)|e
  ·rcases ak _ e with e|e
   ·exact aw (.inl (by rw[e];exact i))
   ·omega
  ·exact aw (.inl (.inr (.inl e)))
  ·exact aw (.inl (.inr (.inr (.inl e))))
  ·exact aw (.inl (.inr (.inr (.inr e))))
  ·exact aw (.inr e)
 have hJ:∀j,J j->j.nat<g.next.nat:=λj e=>q.wd.lt j (.inr (.inl e));have bR:Rws (λj=>g6.next.nat<=j.nat) (flat fH) 1 g8 lv ((l.filter (iD limit n)).map (nH uid)):=
  (o7.rows (aK _) (λ_ _ q=>q.elim) λj hb _=>hb).ch (aK _) c8 λj _ q=>⟨q,λe=>by rw[e]at q;omega⟩
 have r8:Rws (λj=>Pr j\/bC a7=some j) msE 10 g8 a7 (l.filter λa=>!iD limit n a):=(r7.rws dD).ch dD c8 λj hj pq=>⟨pq,λe=>by
  rw[e]at pq;rcases pq with pq|pq
  ·exact(ac _ pq).2.2 i
  ·exact(t _ (i7 _ pq)).2.2.2.2 i⟩
 have hC:=λfm=>aCe (fm:=fm) (fr:=fr) (tx:=tx) q8 hv W.smallC W.few W.sorted W.few2 bz ba h4 bv (λe=>ah (.inl (.inr (.inl e)))) bB (λe=>by have:=hJ _ e;omega) bR (λj q e=>by have:=hJ j e;omega) r8 (B! (x! _ _) W.len) W.fnd W.fresh W.at_ W.run;have FF:∀g,fC (.func Gf) [] [X lc 0,X nc 0,X g5.next 0,X a3 0] g=D (.func (.func Gf) .nil (.cons (X lc 0) (.cons (X nc 0) (.cons (X g5.next 0) (.cons (X a3 0) .nil))))) g:=λg=>rfl;have FG:∀g,fC (.func P9) [] [X g1.next 0,X z.next 0] g=D (.func (.func P9) .nil (.cons (X g1.next 0) (.cons (X z.next 0) .nil))) g:=λg=>rfl;unfold RS;simp(disch:=omega)only[vvB,d!,reduceCtorEq,↓reduceIte,o!,O1,O0,OZ,OY,OX,OW,OV,OU,OT,OQ,OO,OM,OL,OJ,OI,f0,f3,f5,f6,f7,f8,f9,a4,aE,aL,e1,S2,aj,a5,az,aD,bt,e3,S4,e5,C2,<-bh,FF,FG,e7,a9,e8,Nat.reduceSub,Int.natCast_one];exact hC _ (qK2 f0) (qK2 f3) (qK2 f4) (qK0) (qK0) (qK0)
theorem aOx(h:Hp)(a b:Ob):((aH 2 h).put h.next (some a)).put h.next.succ (some b)=(h.new a).new b:=rfl
structure StoreW (w:Wds) (limit:Bool) (n:Int) (tx key:List Nat):Prop where
 set:∃x,w.get? 0=some x/\x.kind≠3/\x.text=tx
 len:w.len=(if limit=true then 4 else 3)
 since:limit=true->∃(x x0 x1:Wd) (k:Nat),w.get? 1=some x/\x.kind=3/\x.kids.len=2/\x.kids.get? 0=some x0/\x0.kind=1/\(x0.text.length<1000000000/\∀c∈x0.text,c<256)/\foldM x0.text=aOu/\x.kids.get? 1=some x1/\x1.kind=1/\x1.text=dP k/\k<20/\n=(k:Int)
 zero:limit=false->n=0
 mode:∃x,w.get? (if limit=true then 2 else 1)=some x/\x.kind=1/\(x.text.length<1000000000/\∀c∈x.text,c<256)/\foldM x.text= [43]++qB++aec
 flag:∃x xf,w.get? (if limit=true then 3 else 2)=some x/\x.kind=3/\x.kids.len=1/\x.kids.get? 0=some xf/\xf.kind=1/\∀h,EH [H xf.text] h=D (.tuple (.cons (H key) (.cons (K true) .nil))) h
theorem amz{r:List (Int×Int)}(q:Rq bb h0 Z h pc im ps ir uid w s st L vw P F J pl ib cb fb vm vl vv I)(hv:st.vw=some ks)(ho:st.only=false)(i:StoreW w limit n tx key)(aL:ajU tx (yJ uid ks.2.2)=some r)
  (W:Stores st.acc ks uid limit n key ((fQ st.acc.mails ks.1 0 ks.2.2).filter λx=>inM r (nH uid x)) C fr s2):
  ∃h',Q5 [X pc 0,X ir 0] h=D (anV 0 s2 false false (!uid)) h'/\Ep bb h0 Z vw P h' pc im ps ir uid w s {st with acc:=C,vw:=some (ks.1,ks.2.1,tells C ks.1 ks.2.2 fr)}:=by
 obtain⟨x0,bv,bq,bt⟩:=i.set;obtain⟨h1,bp,c1,k3⟩:=mkW h (O (N tPr true) [X ir 0]);have B1:fO tPr (X ir 0) h=D (X h.next 0) h1:=by rw[bp];rfl
 obtain⟨h2,ao,c2,k4⟩:=mkW h1 (O (N tA true) zAn);have ai:=c1.trans c2;have q2:=q.nw ai;have K3:=(k3.nw c2).ld (q:=0) (x:=X ir 0) rfl;have R3:=q2.kr.ld q2.l3;have lw:=λh=>q2.aOt h;have ah:((w.len:Int)<3)=False:=eq_false (by have:=i.len;cases limit<;>simp at this<;>omega);obtain⟨j0,q0,bX,i0,l0⟩:=WS.atN q2.ws bv;have aR:∀h',aX 3 vw (Y U 0) h'=D (X j0 q0) h':=i0;rw[bt]at l0;obtain⟨S,a,e3,r3,c3,i3⟩:=q2.set (vk:=bX) hv W.small W.few bq aL;have bh:=ai.trans c3;have q3:=q.nw bh;obtain⟨v1,bk,t1⟩:=q3.ws.from (k:=1) (by have:=i.len;cases limit<;>simp at this<;>omega)
 have ag:∀h',eU 3 vw (some (Y U 1)) none none h'=D v1 h':=bk;obtain⟨h4,G⟩:∃h4,h4=(a.new (O (N fZ true) [iV 0])).new (O (N tBl true) [K false]):=⟨_,rfl⟩
 have c4:Nw a h4:=by rw[G];exact(Nw.new _ _).trans (Nw.new _ _)
 have ba:Kn h4 a.next (O (N fZ true) [iV 0]):=by rw[G];exact(Kn.new a _).add _
 have bs:(a.new (O (N fZ true) [iV 0])).next=a.next.succ:=rfl;have bx:Kn h4 a.next.succ (O (N tBl true) [K false]):=by rw[G];exact Kn.new _ _
 have P2:=aOx a (O (N fZ true) [iV 0]) (O (N tBl true) [K false]);rw[<-G]at P2;obtain⟨y,ac⟩:∃y,y=h4.put a.next (some (O (N fZ true) [iV 0])):=⟨_,rfl⟩
 have S5:aQ 1 (X a.next 0) (Y U 0) h4=D V.undef y:=by rw[ac];exact ba.st ⟨rfl,rfl⟩ (by decide)
 have aj:a.next.succ≠a.next:=λe=>by have:=congrArg Pos.nat e;rw[Pos.fG]at this;omega
 have c5:Ch (λj=>j=a.next) h4 y:=by rw[ac];exact Ch.put _ _ rfl
 have bB:Kn y a.next (O (N fZ true) [iV 0]):=by rw[ac];exact ba.put _
 have a4:=bx.ch c5 aj;have al:Nw a y:=by rw[ac];exact c4.put (z! _) _
 have bu:∃x1,w.get? 1=some x1/\decide (x1.kind=3)=limit:=by
  cases limit with
  |true=>obtain⟨x,_,_,_,h1,h2,-⟩:=i.since rfl;exact⟨x,h1,decide_eq_true h2⟩
  |false=>obtain⟨x,h1,h2,-⟩:=i.mode;exact⟨x,h1,by rw[h2];rfl⟩
 obtain⟨x1,aM,ax⟩:=bu;have t:(w.drop 1).get? 0=some x1:=by rw[Wds.sV];exact aM
 have bN:WS P y v1 (w.drop 1):=t1.ch al λj _ q=>⟨q,λq=>q⟩
 have bS:WS P (aH 2 a) v1 (w.drop 1):=t1.ch (Nw.bump 2 a) λj _ q=>⟨q,λq=>q⟩
 obtain⟨j1,q1,b4,i1,l1,-,-,-⟩:=WS.at bN t;have a0:∀h',aX 3 v1 (Y U 0) h'=D (X j1 q1) h':=i1;have bL:aF (X j1 q1) (aH 2 a)=D (Y U x1.kind) (aH 2 a):=by
  obtain⟨j',q',_,i',l',-,-,-⟩:=WS.at bS t;have e1:=(i' a).symm.trans (i1 a);injection e1 with e1;injection e1 with e1 e2;subst e1;subst e2;exact l'
 have cC:∀{k:Out},chk (λh=>aF (X j1 q1) h) (Y U x1.kind) k 1 [aH 2 a]=k:=uS rfl bL;obtain⟨z,ad⟩:∃z,z=y.put a.next.succ (some (O (N tBl true) [K limit])):=⟨_,rfl⟩
 have S6:aQ 1 (X a.next.succ 0) (K (decide (x1.kind=3))) y=D V.undef z:=by rw[ad,ax];exact a4.st ⟨rfl,rfl⟩ (by decide)
 have c6:Ch (λj=>j=a.next.succ) y z:=by rw[ad];exact Ch.put _ _ rfl
 have bc:=bB.ch c6 aj.symm;have ak:Kn z a.next.succ (O (N tBl true) [K limit]):=by rw[ad];exact a4.put _
 have m:Nw a z:=by rw[ad];exact al.put (by rw[Pos.fG];omega) _
 have LM:=ak.ld (q:=0) (x:=K limit) rfl;have b2:=ai.next;have n1:=c1.next;have n3:=c3.next;have b3:=m.next;have hz:=q.chz.next;have b0:=k3.2;have b1:=k4.2;have tail:∀{p:Hp} {v2:V} {E:Wds} {d u xf:Wd} (fm:Go.Vm.F),Nw a p->Kn p a.next (O (N fZ true) [iV n])->Kn p a.next.succ (O (N tBl true) [K limit])->WS P p v2 E->E.len=2->E.get? 0=some d->d.kind=1->(d.text.length<1000000000/\∀c∈d.text,c<256)->foldM d.text= [43]++qB++aec->E.get? 1=some u->u.kind=3->u.kids.len=1->u.kids.get? 0=some xf->xf.kind=1->
   (∀h,EH [H xf.text] h=D (.tuple (.cons (H key) (.cons (K true) .nil))) h)->
   fm.get (b! 0)=some (X pc 0)->fm.get (b! 3)=some (X h.next 0)->fm.get (b! 4)=some (X h1.next 0)->fm.get (b! 5)=some v2->fm.get (b! 6)=some S->fm.get (b! 7)=some (K true)->fm.get (b! 8)=some (X a.next 0)->fm.get (b! 9)=some (X a.next.succ 0)->
   aW j! [.cell 4 tA] (RunT bb h0 Z vw P pc im ps ir uid w (anL 0 s2 false false (!uid)) s {st with acc:=C,vw:=some (ks.1,ks.2.1,tells C ks.1 ks.2.2 fr)}) (RS fm p):=by
  intro p v2 E d u xf fm c7 af bz t2 a1 a2 a3 M a5 a6 a7 a8 a9 bf bg f0 f3 f4 f5 f6 f7 f8 f9;have q7:=q3.nw c7;have b:∀j:Pos,(Ft F J pc im j\/OfB ir 5 L j)->j.nat<h.next.nat:=λj e=>e.elim (q.wd.lt j) λo=>(o.from q.bd _).2;have rr:vO tMs 10 (λj=>(h2.next.nat<=j.nat/\bC S≠some j)/\j.nat<a.next.nat) msE p S _:=(r3.ch dD (Nw.refl _) (λ_ _ q=>q) λj hj q=>⟨⟨q,hj⟩,λq=>q⟩).nw dD c7;refine aCf (top:=a.next.nat) q7 hv ho W ((k4.nw c3).nw c7) (λe=>by have:=b _ e;omega) (by omega) (((k3.nw c2).nw c3).nw c7) (λe=>by have:=b _ e;omega) af bz t2 a1 a2 a3 M a5 a6 a7 a8 a9 bf bg rr
   (λj pj=>⟨pj.1.2,pj.2,λe=>by have:=b j (.inl e);have:=pj.1.1;omega⟩) (λj e=>?_) ⟨z! _,by rw[Pos.fG];omega⟩ f0 f3 f4 f5 f6 f7 f8 f9
  have hj:=i3 j e;exact⟨hj.2,by omega,by omega,λo=>by have:=b j (.inr o);omega,λo=>by have:=b j (.inl o);omega⟩
 rw[arH,arw]
 suffices T:aW j! [.cell 4 tA] (RunT bb h0 Z vw P pc im ps ir uid w (anL 0 s2 false false (!uid)) s {st with acc:=C,vw:=some (ks.1,ks.2.1,tells C ks.1 ks.2.2 fr)})
   ((aB Aq (aB Ap (aB (aB Am (aT (.tmp 27) (aB TY p!) q!)) (aB Ak (aB Aj (aB Ai (aB (aB Ah (aT (.tmp 44) (aB IJ (aB II (aB D9 D8))) q!)) RS))))))) (T.set (some (X ir 0)) (b! 1) (T.set (some (X pc 0)) (b! 0) T.nil)) h) by
  obtain⟨r,h',e,rfl,q⟩:=T;exact⟨h',e,q⟩
 obtain⟨d,ay,az,aD,aE⟩:=i.mode;obtain⟨u,xf,ap,aq,ar,au,av,aw⟩:=i.flag;cases limit with
 |false=>
  have br:=i.zero rfl;subst br;simp(disch:=omega)only[vvB,seval,o!,Aq,Ap,Am,Ak,Aj,Ai,Ah,B1,<-ao,K3,R3,lw,ah,aR,l0,e3,ag,aN1,P2,S5,a0,l1,cC,S6,LM];exact tail _ m bc ak (t1.ch m λj _ q=>⟨q,λq=>q⟩) (by rw[Wds.len_drop,i.len];rfl) (by rw[Wds.sV];exact ay) az aD aE (by rw[Wds.sV];exact ap) aq ar au av aw (qK0) (qK0) (qK0) (qK0) (qK0) (qK0) (qK0) (qK0)
 |true=>
  obtain⟨x,y0,y1,k,g1,g2,g3,g4,g5,g6,g7,g8,g9,bm,bn,bo⟩:=i.since rfl;have bw:x=x1:=by rw[aM]at g1;cases g1;rfl
  subst bw;have bO:WS P z v1 (w.drop 1):=t1.ch m λj _ q=>⟨q,λq=>q⟩
  obtain⟨j2,bM,b5,a1,a2,row⟩:=WS.atR bO t;have be:∀h',aX 3 v1 (Y U 0) h'=D (X j2 bM) h':=a1;rw[g2]at a2;have ej:=(i1 z).symm.trans (a1 z);injection ej with ej;injection ej with bi bj;subst bi;subst bj;obtain⟨p,e7,c7⟩:=aBA (h:=z) (tx:=x.text) row.ws g3 g4 g5 g6 g7 g8 g9 bm bn;have af:=bc.nw c7;obtain⟨h8,ae⟩:∃h8,h8=p.put a.next (some (O (N fZ true) [iV (k:Int)])):=⟨_,rfl⟩
  have S8:aQ 1 (X a.next 0) (Y U (k:Int)) p=D V.undef h8:=by rw[ae];exact af.st ⟨rfl,rfl⟩ (by decide)
  have c8:Ch (λj=>j=a.next) p h8:=by rw[ae];exact Ch.put _ _ rfl
  have bE:Kn h8 a.next (O (N fZ true) [iV (k:Int)]):=by rw[ae];exact af.put _
  have bA:=(ak.nw c7).ch c8 aj;have am:Nw a h8:=by rw[ae];exact(m.trans c7).put (z! _) _
  have bR:WS P h8 v1 (w.drop 1):=t1.ch am λj _ q=>⟨q,λq=>q⟩
  obtain⟨v2,bl,t2⟩:=bR.from (k:=1) (by rw[Wds.len_drop,i.len];decide)
  have an:∀h',eU 3 v1 (some (Y U 1)) none none h'=D v2 h':=bl;subst bo;simp(disch:=omega)only[vvB,seval,o!,Aq,Ap,Am,Ak,Aj,Ai,Ah,IJ,II,D9,D8,B1,<-ao,K3,R3,lw,ah,aR,l0,e3,ag,aN1,P2,S5,a0,l1,cC,S6,LM,a2,e7,Ik.aew,S8,an];exact tail _ am bE bA t2 (by rw[Wds.len_drop,Wds.len_drop,i.len];rfl) (by rw[Wds.sV,Wds.sV];exact ay) az aD aE (by rw[Wds.sV,Wds.sV];exact ap) aq ar au av aw (qK0) (qK0) (qK0) (qK0) (qK0) (qK0) (qK0) (qK0)
end
section
variable{h h' g:Hp}{P:Pos->Prop}{v:V}{a n:Nat}{l:List Int}{ks:List (List Nat)}{s:List Nat}
theorem aGA(R:Rws P (flat fF) 1 h v ks)(z:ks.length<=1000):∃h',UF [v,H s] h=D (K (ks.any λk=>decide (k=s))) h'/\Nw h h':=by
 have t:=λh=>R.len h;rw[axA]
 suffices T:aW j! [.tmp 4] (λr h'=>r=K (ks.any λk=>decide (k=s))/\Nw h h') (abm (T.set (some (H s)) (b! 1) (T.set (some v) (b! 0) T.nil)) h) by
  obtain⟨r,h',e,rfl,c⟩:=T;exact⟨h',e,c⟩
 simp(disch:=omega)only[vvB,seval,abm,ani,anh];refine Oc.then (dW (n:=ks.length) (λj fr g=>∃k:Nat,fr.get (b! 0)=some v/\fr.get (b! 1)=some (H s)/\fr.get (b! 5)=some (Y U (k:Int))/\k+j=ks.length/\g=h/\((ks.take k).any λk=>decide (k=s))=false)
  (A:=λfr g=>g=h/\(ks.any λk=>decide (k=s))=false) (B:=λfr g=>fr.get (b! 4)=some (K (ks.any λk=>decide (k=s)))/\g=h) (by rw[dO];omega) ?_ ?_) ?_ ?_
 ·exact⟨0,qK0,qK0,qK1,by omega,rfl,by simp⟩
 ·rintro j fr g ⟨k,f0,f1,o,y,rfl,b⟩;by_cases C:j=0
  ·have f:k=ks.length:=by omega
   subst f;rw[Q!]at b;simp(disch:=omega)only[vvB,seval,QU,QK,f0,o,t];exact⟨rfl,rfl,b⟩
  ·have f:k<ks.length:=by omega
   obtain⟨x,p⟩:∃x,ks[k]?=some x:=⟨_,w! f⟩
   obtain⟨E,q,cs,u,ex,-,-,-,ld,-⟩:=R.elt p;obtain rfl:cs=fF x:=ex;have i:=ld g rfl 0 (H x) rfl;rw[o!]at i;by_cases d:x=s
   ·have m:(x=s)=True:=eq_true d;simp(disch:=omega)only[vvB,seval,QU,QK,aaI,anf,f0,f1,o,t,u,i,m];refine⟨?_,rfl⟩;have:(ks.any λk=>decide (k=s))=true:=List.any_eq_true.2 ⟨x,y! p,decide_eq_true d⟩
    simp only[vvB,seval,this]
   ·have m:(x=s)=False:=eq_false d;simp(disch:=omega)only[vvB,seval,QU,QK,ang,aaI,f0,f1,o,t,u,i,m];exact⟨j - 1,by omega,k+1,qK2 f0,qK2 f1,qK1,by omega,rfl,by rw[Go.Vm.take_snoc p,List.any_append,b];simp[d]⟩
 ·rintro fr g ⟨rfl,b⟩;simp only[vvB,seval,ane];exact aW.ret (qT0) ⟨by rw[b],Nw.refl _⟩
 ·rintro fr g ⟨w,rfl⟩;exact aW.ret (qT1 w) ⟨rfl,Nw.refl _⟩
theorem abR(x:Int×Int):eu oC [(Y U 0),(Y U 0)] 1 [(0,2,.agg (V.ofList (dY x)))]=some (O (N oC true) (dY x),λp=>.slice p 0 1 (.kn 1)):=(rfl)
theorem aBz(R:Rws P (flat fH) 1 h v l)(hl:l=(a! n).map λk=>((a+k:Nat):Int))(ha:1<=a)(hn:1<=n)(ae:a+n<100):∃h',VY [v] h=D (H (fM a n)) h'/\Nw h h':=by
 have S:l.length=n:=by rw[hl];simp
 have z:∀k,k<n->l[k]?=some ((a+k:Nat):Int):=λk hk=>by rw[hl,c!,e! hk];rfl
 have ll:=λg=>R.len g;rw[S]at ll;rw[av4]
 suffices T:aW j! [.tmp 2] (λr h'=>r=H (fM a n)/\Nw h h') (VO (T.set (some v) (b! 0) T.nil) h) by
  obtain⟨r,h',e,rfl,c⟩:=T;exact⟨h',e,c⟩
 simp(disch:=omega)only[vvB,VO,aiX,aiW,aiV,aiU];refine Oc.then (dW (n:=n) (λp fr g=>∃(k:Nat) (s1:V) (s2:Int),fr.get (b! 0)=some v/\fr.get (b! 3)=some s1/\fr.get (b! 4)=some (iV s2)/\fr.get (b! 5)=some (Y U (k:Int))/\k+p=n/\Nw h g/\((k=0/\s1=.aO/\s2=0)\/(0<k/\∃i f,s1=.slice i 0 1 (.un 2)/\s2=((a+k:Nat):Int) - 1/\Kn g i (O (N oC f) (dY ((a:Int),((a+k:Nat):Int) - 1)))/\h.next.nat<=i.nat)))
  (A:=λfr g=>Nw h g/\∃i f,fr.get (b! 3)=some (.slice i 0 1 (.un 2))/\Kn g i (O (N oC f) (dY ((a:Int),((a+n:Nat):Int) - 1)))/\h.next.nat<=i.nat) (B:=λ_ _=>False) (by rw[dO];omega) ?_ ?_) ?_ ?_
 ·exact⟨0,.aO,0,qK0,qK0,qK0,qK1,by omega,Nw.refl _,.inl ⟨rfl,rfl,rfl⟩⟩
 ·rintro p fr g ⟨k,s1,s2,f0,f3,f4,f5,hk,c,hs⟩;by_cases hz:p=0
  ·have o:k=n:=by omega
   subst o;simp(disch:=omega)only[vvB,↓reduceIte,LZ,LU,f0,f5,ll];rcases hs with⟨h0,-⟩|⟨-,i,f,rfl,-,G,hi⟩
   ·omega
   ·exact⟨rfl,c,i,f,qK2 f3,G,hi⟩
  ·have o:k<n:=by omega
   obtain⟨ii,q,cs,ix,ex,-,-,-,ld,-⟩:=(R.nw (aK _) c).elt (z k o);obtain rfl:cs=fH ((a+k:Nat):Int):=ex;have I:=ld g rfl 0 (iV ((a+k:Nat):Int)) rfl;rw[o!]at I;have af:=c.next;rcases hs with⟨rfl,rfl,rfl⟩|⟨ag,i,f,rfl,rfl,G,hi⟩
   ·have e0:(((a+0:Nat):Int)<=0)=False:=eq_false (by omega);have t:∀g,aZ 2 .aO g=D (Y U 0) g:=λ_=>rfl;obtain⟨v',d,e2,o2,L,n2,i2⟩:=(dA.nil g.next.nat (λ_=>False) (flat dY) oC 2 g).ao0 (bt:=16) (x:=(((a+0:Nat):Int),((a+0:Nat):Int))) (z! _) rfl (by simp);have W:(aH 1 g).put g.next (some (O (N oC true) (dY (((a+0:Nat):Int),((a+0:Nat):Int)))))=g.new (O (N oC true) (dY (((a+0:Nat):Int),((a+0:Nat):Int)))):=rfl;have bR:=λh=>bR2 ((a+0:Nat):Int) ((a+0:Nat):Int) h;have ac:aF (X ii q) (aH 1 g)=D (iV ((a+0:Nat):Int)) (aH 1 g):=by
     have:=ld (aH 1 g) rfl 0 (iV ((a+0:Nat):Int)) rfl;rwa[o!]at this
    have aR:=abR (((a+0:Nat):Int),((a+0:Nat):Int));have w:((0:Int)>0)=False:=eq_false (by omega);have ab:Nw g d:=L.mono λ_ _ e=>(by cases e)
    have b:aF (X ii q) d=D (iV ((a+0:Nat):Int)) d:=by
     obtain⟨i2,q2,u,E,y,-,-,-,b,-⟩:=(R.nw (aK _) (c.trans ab)).elt (z 0 o);obtain rfl:u=fH ((a+0:Nat):Int):=y;have e1:=(ix g).symm.trans (E g);injection e1 with e1;injection e1 with e1 e2;subst e1;subst e2;have:=b d rfl 0 (iV ((a+0:Nat):Int)) rfl;rwa[o!]at this
    simp(disch:=omega)only[vvB,d!,reduceCtorEq,↓reduceIte,LZ,LU,W9,WZ,WY,aiS,TV,f0,f3,f4,f5,ll,ix,I,ac,b,e0,t,w,bR,aR,W,e2];refine⟨p - 1,by omega,0+1,v',((a+0:Nat):Int),qK2 f0,qK0,qK0,qK1,by omega,c.own L λj e=>(by cases e),.inr ⟨by omega,?_⟩⟩;obtain⟨ad,aa,hw,s⟩:=o2;obtain rfl:=aa.flat;rcases s.is with⟨h0,-⟩|⟨i,e,hb,hi,f,hg⟩
    ·simp at h0
    ·refine⟨i,f,e,?_,⟨?_,hi⟩,by omega⟩
     ·show((a+0:Nat):Int)=((a+(0+1):Nat):Int) - 1;omega
     ·rw[hg];have:((a+(0+1):Nat):Int) - 1=((a+0:Nat):Int):=by omega
      rw[this];rfl
   ·have e0:(((a+k:Nat):Int)<=((a+k:Nat):Int) - 1)=False:=eq_false (by omega);have t:∀g,aZ 2 (.slice i 0 1 (.un 2)) g=D (Y U 1) g:=λ_=>rfl;have Z:∀g,aX 2 (.slice i 0 1 (.un 2)) (Y U 0) g=D (X i 0) g:=λg=>lG (sz:=2) (i:=i) (c:=.un 2) (m:=0) (n:=1) (by omega) g;have w:((1:Int)>0)=True:=eq_true (by omega);have es:((1:Int) - 1)=0:=rfl;have ea:(((a+k:Nat):Int) - 1+1)=((a+k:Nat):Int):=by omega
    obtain⟨d,C⟩:∃d,d=g.put i (some (O (N oC f) (dY ((a:Int),((a+k:Nat):Int))))):=⟨_,rfl⟩
    have S1:aQ 1 (X i 1) (iV ((a+k:Nat):Int)) g=D V.undef d:=by rw[C];exact G.st ⟨rfl,rfl⟩ (by show 1<2;omega)
    have L:Ch (λj=>j=i) g d:=by rw[C];exact Ch.put _ _ rfl
    have b:aF (X ii q) d=D (iV ((a+k:Nat):Int)) d:=by
     obtain⟨i2,q2,u,E,y,-,-,-,b,-⟩:=(R.ch (P':=λ_=>True) (aK _) (c.then L λj hj q=>by rw[q]at hj;omega) λj _ _=>⟨trivial,λq=>q⟩).elt (z k o);obtain rfl:u=fH ((a+k:Nat):Int):=y;have e1:=(ix g).symm.trans (E g);injection e1 with e1;injection e1 with e1 e2;subst e1;subst e2;have:=b d rfl 0 (iV ((a+k:Nat):Int)) rfl;rwa[o!]at this
    simp(disch:=omega)only[vvB,d!,reduceCtorEq,↓reduceIte,LZ,LU,W9,WZ,WY,aiT,TV,f0,f3,f4,f5,ll,ix,I,b,e0,t,w,es,ea,Z,S1];refine⟨p - 1,by omega,k+1,.slice i 0 1 (.un 2),((a+k:Nat):Int),qK2 f0,qK2 f3,qK0,qK1,by omega,c.then L λj hj q=>by rw[q]at hj;omega,.inr ⟨by omega,i,f,rfl,by show _=((a+(k+1):Nat):Int) - 1;omega,?_,hi⟩⟩;have:((a+(k+1):Nat):Int) - 1=((a+k:Nat):Int):=by omega
    rw[this,C];exact G.put _
 ·rintro fr g ⟨c,i,f,f3,G,hi⟩;have t:∀g,aZ 2 (.slice i 0 1 (.un 2)) g=D (Y U 1) g:=λ_=>rfl;have Z:∀g,aX 2 (.slice i 0 1 (.un 2)) (Y U 0) g=D (X i 0) g:=λg=>lG (sz:=2) (i:=i) (c:=.un 2) (m:=0) (n:=1) (by omega) g;have X0:=G.ld (q:=0) (x:=iV (a:Int)) rfl;have X1:=G.ld (q:=1) (x:=iV (((a+n:Nat):Int) - 1)) rfl;have d0:uY [iV (a:Int)] g=D (H (dP a)) g:=zI (ahb (n:=a) (by omega)) g;have d1:uY [iV (((a+n:Nat):Int) - 1)] g=D (H (dP (a+n - 1))) g:=by
   have e:((a+n - 1:Nat):Int)=((a+n:Nat):Int) - 1:=by omega
   rw[<-e];exact zI (ahb (n:=a+n - 1) (by omega)) g
  have q1:=(je (n:=a) (by omega)).1;have q2:=(je (n:=a+n - 1) (by omega)).1;have eL:((1:Int)<1)=False:=eq_false (by omega);have Q:((0:Int)<1)=True:=eq_true (by omega);have M:((0:Int)>0)=False:=eq_false (by omega);have a0:aI .add .none (H []) (H (dP a)) g=D (H (dP a)) g:=by rw[gu (by simp;omega)];rfl
  simp(disch:=omega)only[vvB,afn,afm];refine Oc.then (dW (n:=1) (λp fr g'=>g'=g/\fr.get (b! 3)=some (.slice i 0 1 (.un 2))/\((p=1/\fr.get (b! 6)=some (H [])/\fr.get (b! 7)=some (Y U 0))\/(p=0/\fr.get (b! 6)=some (H (fM a n))/\fr.get (b! 7)=some (Y U 1))))
   (A:=λfr g'=>g'=g/\fr.get (b! 6)=some (H (fM a n))) (B:=λ_ _=>False) (by rw[dO];omega) ?_ ?_) ?_ ?_
  ·exact⟨rfl,qK2 f3,.inl ⟨rfl,qK0,qK0⟩⟩
  ·rintro p fr g' ⟨rfl,f3,hs⟩;rcases hs with⟨rfl,J,f7⟩|⟨rfl,J,f7⟩
   ·by_cases h1:n=1
    ·have eG:((((a+n:Nat):Int) - 1)>(a:Int))=False:=eq_false (by omega);have hr:fM a n=dP a:=by unfold fM;rw[if_pos h1]
     simp(disch:=omega)only[vvB,d!,↓reduceIte,Jd,IG,TU,TT,TS,TR,f3,J,f7,t,Q,M,Z,X0,X1,d0,a0,eG];exact⟨0,by omega,rfl,qK2 f3,.inr ⟨rfl,by rw[hr];simp only[vvB,d!,↓reduceIte],qK1⟩⟩
    ·have eG:((((a+n:Nat):Int) - 1)>(a:Int))=True:=eq_true (by omega);have hr:fM a n=dP a++ [58]++dP (a+n - 1):=by unfold fM;rw[if_neg h1,O!]
     have a1:aI .add .none (H (dP a)) (H [58]) g'=D (H (dP a++ [58])) g':=gu (by simp;omega);have a2:aI .add .none (H (dP a++ [58])) (H (dP (a+n - 1))) g'=D (H (dP a++ [58]++dP (a+n - 1))) g':=gu (by simp;omega);simp(disch:=omega)only[vvB,d!,↓reduceIte,Jd,IG,TU,TT,TS,TR,afl,f3,J,f7,t,Q,M,Z,X0,X1,d0,d1,a0,a1,a2,eG];exact⟨0,by omega,rfl,qK2 f3,.inr ⟨rfl,by rw[hr];simp only[vvB,d!,↓reduceIte],qK1⟩⟩
   ·simp(disch:=omega)only[vvB,↓reduceIte,Jd,IG,f3,f7,t,eL];exact⟨rfl,rfl,qK2 J⟩
  ·rintro fr g' ⟨rfl,J⟩;simp only[vvB,afk,J];exact aW.ret (qT0) ⟨rfl,c⟩
  ·intro fr g q;exact q.elim
 ·intro fr g q;exact q.elim
end
end Go.Proofs.Im
namespace Go.Im
theorem find_range{d:Type}{f:Nat->d}{key:d->Int}(b:∀i,key (f i)=(i:Int)+1){k i:Nat}(hi:i<k):
  ((a! k).map f).findIdx? (λy=>decide (key y=(i:Int)+1))=some i/\((a! k).map f).find? (λy=>decide (key y=(i:Int)+1))=some (f i):=by
 have a:((a! k).map f).findIdx? (λy=>decide (key y=(i:Int)+1))=some i:=by
  rw[List.findIdx?_eq_some_iff_getElem];refine⟨by simpa using hi,by simp[b],λj e=>?_⟩;simp[b];omega
 refine⟨a,?_⟩;rw[Kt,a];show((a! k).map f)[i]?=_;rw[c!,e! hi];rfl
section
variable{g:Nat->Ml}(c:∀i,(g i).id=(i:Int)+1)(p:∀i,(g i).mem= [(1,(i:Int)+1)])
include p
theorem aaD:∀k:Nat,Wn ((a! k).map g) 1=(a! k).map λi:Nat=>((i:Int)+1,g i)
 |0=>rfl
 |k+1=>by
  rw[k!,g!,g!,i!,t!,ayO,aaD k,p];rfl
include c
theorem alP{k:Nat}(t:Nat->Int):∀d s:Nat,s+d=k->fQ ((a! k).map g) 1 s ((D! s d).map λi:Nat=>((i:Int)+1,(i:Int)+1,t i))=(D! s d).map λi:Nat=>((i:Int)+1,(i:Int)+1,g i)
 |0,_,_=>rfl
 |d+1,s,h=>by
  rw[R!,i!,i!];show uZ ((a! k).map g) 1 s ((s:Int)+1,(s:Int)+1,t s)++fQ ((a! k).map g) 1 (s+1) ((D! (s+1) d).map λi:Nat=>((i:Int)+1,(i:Int)+1,t i))=_;rw[alP t d (s+1) (by omega)];have b:=(find_range (f:=g) (key:=λm:Ml=>m.id) c (show s<k by omega)).2;have a:uZ ((a! k).map g) 1 s ((s:Int)+1,(s:Int)+1,t s)= [((s:Int)+1,(s:Int)+1,g s)]:=by
   unfold uZ;show(match ((a! k).map g).find? (λm=>decide (m.id=(s:Int)+1)) with|some m=>_|none=>_)=_;rw[b];show(if((g s).mem.any λy=>decide ((1,(s:Int)+1)=y))=true then _ else _)=_;rw[p,if_pos (by simp)]
  rw[a];rfl
theorem atz{k:Nat}(t:Nat->Int):fQ ((a! k).map g) 1 0 ((a! k).map λi:Nat=>((i:Int)+1,(i:Int)+1,t i))=(a! k).map λi:Nat=>((i:Int)+1,(i:Int)+1,g i):=by
 have:=alP c p (k:=k) t k 0 (by omega);rwa[<-I!]at this
end
abbrev yS:List Nat:= [121]
def gF(k m i:Nat):Ml:=if i<m then{mlF i with keys:= [yS],mod:=(k:Int)+2+i} else mlF i
def gY(k m:Nat):Acc:={fB k with clock:=(k:Int)+1+m,mails:=(a! k).map (gF k m),ents:=(fB k).ents++(a! m).map λi:Nat=>(⟨(k:Int)+2+i,2,(i:Int)+1,2⟩:En)}
theorem ar4(k m i:Nat):(gF k m i).id=(i:Int)+1:=by unfold gF;split<;>rfl
theorem SQ(k m i:Nat):(gF k m i).mem= [(1,(i:Int)+1)]:=by unfold gF;split<;>rfl
theorem aoN(k m i:Nat):(gF k m i).keys=if i<m then [yS] else []:=by unfold gF;split<;>rfl
theorem aLL(k m i:Nat):(gF k m i).mod=if i<m then(k:Int)+2+i else(i:Int)+2:=by unfold gF;split<;>rfl
theorem aHr(k:Nat):gY k 0=fB k:=by
 have a:(a! k).map (gF k 0)=(a! k).map mlF:=K! λi _=>by unfold gF;rw[if_neg (by omega)]
 unfold gY;rw[a];simp[fB]
theorem aLn:DL [yS]=false:=by decide
theorem aAn{k j:Nat}(e:j<k):UZ (gY k j) j (mlF j) [yS]=gY k (j+1):=by
 have h:jH (mlF j) [yS]= []:=by
  unfold jH;rw[aLn,show DL (mlF j).keys=false from rfl,if_pos rfl]
 have m:(gY k j).clock+1=(k:Int)+1+((j+1:Nat):Int):=by show(k:Int)+1+j+1=_;omega
 have d:(gY k j).clock+1=(k:Int)+2+j:=by show(k:Int)+1+j+1=_;omega
 have l:(gY k j).mails.set j {mlF j with keys:= [yS],mod:=(gY k j).clock+1}=(a! k).map (gF k (j+1)):=by
  show((a! k).map (gF k j)).set j _=_;apply N!;intro t;by_cases f:j=t
  ·subst f;rw[G! (by simpa using e),c!,e! e,d];show some _=some (gF k (j+1) j);unfold gF;rw[if_pos (by omega)]
  ·rw[J! f,c!,c!];by_cases b:t<k
   ·rw[e! b];show some (gF k j t)=some (gF k (j+1) t);unfold gF;by_cases a:t<j
    ·rw[if_pos a,if_pos (by omega)]
    ·rw[if_neg a,if_neg (by omega)]
   ·rw[H! (by simp;omega)];rfl
 unfold UZ;rw[l,h,d];unfold gY;simp only[kF,t!,List.nil_append,k!,g!,i!,O!,Acc.mk.injEq,true_and,and_true];refine⟨by omega,rfl⟩
theorem Cm{k m:Nat}(b:k<=12)(d:m<=k):(gY k m).Small:=by
 refine⟨?_,by show 0< [bxF k].length/\ [bxF k].length<=1000;simp,by show((a! k).map (gF k m)).length<=1000;simp;omega,?_,λy a=>?_⟩
 ·show 0<=(k:Int)+1+m/\(k:Int)+1+m<1000000;omega
 ·show((fB k).ents++_:List En).length<=9000;rw[l!,show(fB k).ents=(a! k).flatMap Kv from rfl,aaw];simp;omega
 ·obtain⟨i,_,rfl⟩:=h!.1 (show y∈(a! k).map (gF k m) from a);refine⟨?_,by rw[SQ];simp⟩;rw[aoN];split<;>simp
theorem asF{k m:Nat}:(gY k m).Logged:=⟨λe a=>by
 show e.mod<=(k:Int)+1+m;rcases r!.1 (show e∈(fB k).ents++(a! m).map λi:Nat=>(⟨(k:Int)+2+i,2,(i:Int)+1,2⟩:En) from a) with h|h
 ·have:=(SV k).mods e h;have b:(fB k).clock=(k:Int)+1:=rfl;omega
 ·obtain⟨i,hi,rfl⟩:=h!.1 h;have:=n!.1 hi;show(k:Int)+2+i<=_;omega⟩
theorem aCl{k m:Nat}(i:Nat):(gF k m i).In (gY k m):=by
 refine⟨by rw[SQ];exact Gl ltI (by simp),λb x y _ a=>?_,λid c=>?_,by rw[SQ];simp⟩
 ·rw[SQ]at a;simp at a
 ·rw[SQ]at c;simp at c;subst c;exact⟨0,by show([bxF k].findIdx? _)=_;simp[bxF]⟩
def msF(i:Nat):Int×Int×Ml:=((i:Int)+1,(i:Int)+1,mlF i)
theorem aAo{k j:Nat}(e:k<=12)(b:j<k):KGood (gY k j) [yS] (msF j) j (mlF j):=by
 have a:gF k j j=mlF j:=by unfold gF;rw[if_neg (by omega)]
 have d:=find_range (f:=gF k j) (key:=λy:Ml=>y.id) (ar4 k j) b;refine⟨Cm e (by omega),asF,?_,d.1,rfl,by rw[<-a];exact aCl j,by show ∀s∈ [yS],XL s=true;decide,by show [yS].length<=1;decide,by show [yS]≠ [];decide,?_,?_⟩
 ·show((a! k).map (gF k j))[j]?=_;rw[c!,e! b];show some (gF k j j)=_;rw[a]
 ·show((fB k).ents++_:List En).length<=8000;rw[l!,show(fB k).ents=(a! k).flatMap Kv from rfl,aaw];simp;omega
 ·show(k:Int)+1+j<900000;omega
theorem alv{k m:Nat}(a:k<=12)(b:m<=k):∀d j:Nat,j+d=m->Goes (aG9 [yS]) (gY k j) ((D! j d).map msF) (gY k m)
 |0,j,h=>by
  have:j=m:=by omega
  subst this;exact .nil _
 |d+1,j,h=>by
  rw[R!,i!];exact .cons ⟨j,mlF j,aAo a (by omega),(aAn (by omega)).symm⟩ (alv a b d (j+1) (by omega))
def mF(k n:Nat):Nat:=min k (n - 1)
theorem agI(n:Nat):∀k:Nat,((a! k).map msF).filter (λa=>!iD true (n:Int) a)=(a! (mF k n)).map msF
 |0=>by simp[mF]
 |k+1=>by
  rw[k!,g!,A!,agI n k];have e:iD true (n:Int) (msF k)=decide (((k:Int)+2)>(n:Int)):=by simp[iD,msF,mlF]
  rw[i!,t!,C!,E!,e];by_cases h:((k:Int)+2)>(n:Int)
  ·rw[decide_eq_true h];have:mF (k+1) n=mF k n:=by unfold mF;omega
   rw[this];simp
  ·rw[decide_eq_false h];have b:mF (k+1) n=k+1:=by unfold mF;omega
   have d:mF k n=k:=by unfold mF;omega
   rw[b,d,k!,g!];rfl
theorem left_eq(uid:Bool)(n:Nat):∀k:Nat,(((a! k).map msF).filter (iD true (n:Int))).map (nH uid)=(a! (k - mF k n)).map λt:Nat=>((mF k n+1+t:Nat):Int)
 |0=>by simp[mF]
 |k+1=>by
  rw[k!,g!,A!,g!,left_eq uid n k];have e:iD true (n:Int) (msF k)=decide (((k:Int)+2)>(n:Int)):=by simp[iD,msF,mlF]
  have a:nH uid (msF k)=(k:Int)+1:=by unfold nH msF;split<;>rfl
  rw[i!,t!,C!,E!,e];by_cases h:((k:Int)+2)>(n:Int)
  ·rw[decide_eq_true h,if_pos rfl,i!,t!,a];have b:mF (k+1) n=mF k n:=by unfold mF;omega
   have d:k+1 - mF k n=(k - mF k n)+1:=by unfold mF;omega
   rw[b,d,k!,g!];congr 1;show [(k:Int)+1]= [((mF k n+1+(k - mF k n):Nat):Int)];congr 1;have:mF k n<=k:=by unfold mF;omega
   omega
  ·rw[decide_eq_false h,if_neg (by simp)];have b:mF (k+1) n=k+1:=by unfold mF;omega
   have d:mF k n=k:=by unfold mF;omega
   rw[b,d];simp
theorem XY(k:Nat):(dR (fB k) 1).2.2=(a! k).map λi:Nat=>((i:Int)+1,(i:Int)+1,(i:Int)+2):=by
 show(Wn ((a! k).map mlF) 1).map thK=_;rw[aaD (g:=mlF) (λ_=>rfl),List.map_map];rfl
theorem aCy(k:Nat):fQ (fB k).mails (dR (fB k) 1).1 0 (dR (fB k) 1).2.2=(a! k).map msF:=by
 rw[XY];exact atz (g:=mlF) (λ_=>rfl) (λ_=>rfl) λi=>(i:Int)+2
theorem alO(k m:Nat):fQ (gY k m).mails (dR (fB k) 1).1 0 (dR (fB k) 1).2.2=(a! k).map λi:Nat=>((i:Int)+1,(i:Int)+1,gF k m i):=by
 rw[XY];exact atz (g:=gF k m) (ar4 k m) (SQ k m) λi=>(i:Int)+2
theorem Ti(k m:Nat):Wn (gY k m).mails 1=(a! k).map λi:Nat=>((i:Int)+1,gF k m i):=aaD (g:=gF k m) (SQ k m) k
theorem awE{k m:Nat}(j:m<=k):sW (fQ (gY k m).mails (dR (fB k) 1).1 0 (dR (fB k) 1).2.2) ((a! m).map msF)=(a! m).map λi:Nat=>((i:Int)+1,(i:Int)+1,gF k m i):=by
 rw[alO];unfold sW;rw[List.filterMap_map];have:∀l:List Nat,(∀i∈l,i<k)->l.filterMap ((λx:Int×Int×Ml=>((a! k).map λi:Nat=>((i:Int)+1,(i:Int)+1,gF k m i)).find? λy=>decide (y.1=x.1))∘msF)=l.map λi:Nat=>((i:Int)+1,(i:Int)+1,gF k m i):=λl=>by
  induction l with
  |nil=>intro _;rfl
  |cons a l e=>
   intro h;have d:=(find_range (f:=λi:Nat=>((i:Int)+1,(i:Int)+1,gF k m i)) (key:=λy:Int×Int×Ml=>y.1) (λ_=>rfl) (h a (by simp))).2;have b:((λx:Int×Int×Ml=>((a! k).map λi:Nat=>((i:Int)+1,(i:Int)+1,gF k m i)).find? λy=>decide (y.1=x.1))∘msF) a=some ((a:Int)+1,(a:Int)+1,gF k m a):=d;rw[List.filterMap_cons_some b,i!,e λi hi=>h i (by simp[hi])]
 exact this _ λi hi=>by have:=n!.1 hi;omega
theorem ahB(k m j:Nat)(o:Int):∀n:Nat,arS ((j:Int)+1,(j:Int)+1,o) ((a! n).map λi:Nat=>((i:Int)+1,gF k m i))=if j<n then(gF k m j).mod else o
 |0=>rfl
 |n+1=>by
  have b:=ahB k m j o n;unfold arS at b⊢;rw[k!,g!,M!,b];show(if(n:Int)+1=(j:Int)+1/\(gF k m n).id=(j:Int)+1 then(gF k m n).mod else _)=_;rw[ar4];by_cases h:n=j
  ·subst h;rw[if_pos ⟨rfl,rfl⟩,if_pos (by omega)]
  ·rw[if_neg λe=>h (by omega)];by_cases a:j<n
   ·rw[if_pos a,if_pos (by omega)]
   ·rw[if_neg a,if_neg (by omega)]
def wJ(k m j:Nat):List (Int×Int×Int):=(a! k).map λi:Nat=>((i:Int)+1,(i:Int)+1,if i<j then(gF k m i).mod else(i:Int)+2)
theorem ahC{k m:Nat}(d:m<=k):∀j:Nat,j<=m->tells (gY k m) (dR (fB k) 1).1 (dR (fB k) 1).2.2 (((a! m).map λi:Nat=>((i:Int)+1,(i:Int)+1,gF k m i)).take j)=wJ k m j
 |0,_=>by
  rw[XY];show(a! k).map _=_;unfold wJ;exact K! λi _=>by rw[if_neg (by omega)]
 |j+1,l=>by
  have f:((a! m).map λi:Nat=>((i:Int)+1,(i:Int)+1,gF k m i))[j]?=some ((j:Int)+1,(j:Int)+1,gF k m j):=by rw[c!,e! (by omega)];rfl
  rw[alf _ _ _ f,ahC d j (by omega)];have e:(((j:Int)+1,(j:Int)+1,gF k m j):Int×Int×Ml).1 - 1=(j:Int):=by show(j:Int)+1 - 1=_;omega
  rw[e,Int.toNat_natCast];have hl:(wJ k m j)[j]?=some ((j:Int)+1,(j:Int)+1,(j:Int)+2):=by
   unfold wJ;rw[c!,e! (by omega)];show some ((j:Int)+1,(j:Int)+1,if j<j then(gF k m j).mod else(j:Int)+2)=_;rw[if_neg (by omega)]
  unfold Ls;rw[hl];show(wJ k m j).set j ((j:Int)+1,(j:Int)+1,arS ((j:Int)+1,(j:Int)+1,(j:Int)+2) (Wn (gY k m).mails 1))=_;rw[Ti,ahB,if_pos (by omega)];apply N!;intro t;by_cases a:j=t
  ·subst a;rw[G! (by unfold wJ;simp;omega)];unfold wJ;rw[c!,e! (by omega)];show some _=some ((j:Int)+1,(j:Int)+1,if j<j+1 then(gF k m j).mod else(j:Int)+2);rw[if_pos (by omega)]
  ·rw[J! a];unfold wJ;rw[c!,c!];by_cases b:t<k
   ·rw[e! b];show some ((t:Int)+1,(t:Int)+1,if t<j then(gF k m t).mod else(t:Int)+2)=some ((t:Int)+1,(t:Int)+1,if t<j+1 then(gF k m t).mod else(t:Int)+2);by_cases h:t<j
    ·rw[if_pos h,if_pos (by omega)]
    ·rw[if_neg h,if_neg (by omega)]
   ·rw[H! (by simp;omega)];rfl
theorem aqp{now:List (Int×Ml)}:∀{l:List (Int×Int×Int)} {i:Nat},(∀x∈l,(now.find? λy=>decide (y.1=x.1)&&decide (y.2.id=x.2.1)).isSome=true)->DU now i l= []
 | [],_,_=>rfl
 |x::l,i,h=>by
  show(if(now.find? λy=>decide (y.1=x.1)&&decide (y.2.id=x.2.1)).isSome=true then DU now (i+1) l else _)=_;rw[if_pos (h x (by simp)),aqp λy a=>h y (by simp[a])]
theorem al2{k m i:Nat}(hi:i<k):(Wn (gY k m).mails 1).find? (λy=>decide (y.1=(i:Int)+1)&&decide (y.2.id=(i:Int)+1))=some ((i:Int)+1,gF k m i):=by
 rw[Ti];have a:=(find_range (f:=λi:Nat=>((i:Int)+1,gF k m i)) (key:=λy:Int×Ml=>y.1) (λ_=>rfl) hi).2;rw[<-a];refine List.Gp λy b=>?_;obtain⟨j,_,rfl⟩:=h!.1 b;show(decide ((j:Int)+1=(i:Int)+1)&&decide ((gF k m j).id=(i:Int)+1))=decide ((j:Int)+1=(i:Int)+1);rw[ar4];cases decide ((j:Int)+1=(i:Int)+1)<;>rfl
theorem awv(k m j:Nat)(had:Int):amu (gY k m) (1,had,wJ k m j):=λx a=>by
 obtain⟨i,hi,rfl⟩:=h!.1 (show x∈wJ k m j from a);show((Wn (gY k m).mails 1).find? λy=>decide (y.1=(i:Int)+1)&&decide (y.2.id=(i:Int)+1)).isSome=true;rw[al2 (n!.1 hi)];rfl
theorem RV{k m:Nat}(f:k<=12)(j:m<=k):CanUpd (gY k m) (1,(dR (fB k) 1).2.1,wJ k m m):=by
 have e:(Wn (gY k m).mails 1).Pairwise λx y=>x.1<y.1:=by
  rw[Ti,List.pairwise_map];exact List.pairwise_lt_range.imp λ{a b} h=>by show((a:Int)+1)<((b:Int)+1);omega
 refine⟨Cm f j,by show(wJ k m m).length<50;unfold wJ;simp;omega,e,by show(Wn (gY k m).mails 1).length<50;rw[Ti];simp;omega,λx l y d=>?_,λy d=>?_⟩
 ·obtain⟨i,hi,rfl⟩:=h!.1 (show x∈wJ k m m from l);have d:(Wn (gY k m).mails 1).find? (λy=>decide (y.1=(i:Int)+1)&&decide (y.2.id=(i:Int)+1))=some y:=d;rw[al2 (n!.1 hi)]at d;cases d;show(gF k m i).mod<=if i<m then(gF k m i).mod else(i:Int)+2;rw[aLL];split<;>omega
 ·have d:y∈Wn (gY k m).mails 1:=d;rw[Ti]at d;obtain⟨i,hi,rfl⟩:=h!.1 d;have:=(DAcc.foldl_max (Wn (fB k).mails 1) 0).2 ((i:Int)+1,mlF i) (by
   show _∈Wn ((a! k).map mlF) 1;rw[aaD (g:=mlF) (λ_=>rfl)];exact h!.2 ⟨i,hi,rfl⟩)
  exact this
theorem alr{k:Nat}(uid:Bool)(a:1<=k):yJ uid (dR (fB k) 1).2.2=(k:Int):=by
 unfold yJ;rw[XY];cases uid
 ·simp
 ·rw[if_pos rfl,List.getLast?_map,List.getLast?_range,if_neg (by omega)];show((k - 1:Nat):Int)+1=_;omega
theorem asE{k n:Nat}(uid:Bool)(b:1<=k/\k<=12):Stores (fB k) (dR (fB k) 1) uid true (n:Int) yS ((fQ (fB k).mails (dR (fB k) 1).1 0 (dR (fB k) 1).2.2).filter λx=>inM [(1,yJ uid (dR (fB k) 1).2.2)] (nH uid x))
  (gY k (mF k n)) ((a! (mF k n)).map λi:Nat=>((i:Int)+1,(i:Int)+1,gF k (mF k n) i)) (if mF k n=k then [] else sQ++fM (mF k n+1) (k - mF k n)):=by
 have e:mF k n<=k:=by unfold mF;omega
 have hl:((fQ (fB k).mails (dR (fB k) 1).1 0 (dR (fB k) 1).2.2).filter λx=>inM [(1,yJ uid (dR (fB k) 1).2.2)] (nH uid x))=(a! k).map msF:=by
  rw[aCy,alr uid b.1];refine List.filter_eq_self.2 λx a=>?_;obtain⟨i,hi,rfl⟩:=h!.1 a;have:=n!.1 hi
  have h:nH uid (msF i)=(i:Int)+1:=by unfold nH msF;split<;>rfl
  rw[h];unfold inM;simp;omega
 rw[hl];have h0:fB k=gY k 0:=(aHr k).symm;have d:(dR (fB k) 1).2.2.length=k:=by rw[XY];simp
 refine⟨by rw[h0];exact Cm b.2 (by omega),by rw[d];omega,by simp;omega,?_,λx a=>?_,Cm b.2 e,(RV b.2 e).sorted,(RV b.2 e).few2,λx a=>?_,?_,λx a=>?_,?_⟩
 ·rw[agI,h0];have:=alv b.2 e (mF k n) 0 (by omega);rwa[<-I!]at this
 ·obtain⟨i,hi,rfl⟩:=h!.1 a;show([]:List (List Nat)).length<=100;simp
 ·rw[agI]at a;obtain⟨i,hi,rfl⟩:=h!.1 a;have hi:=n!.1 hi;rw[alO];exact⟨_,(find_range (f:=λi:Nat=>((i:Int)+1,(i:Int)+1,gF k (mF k n) i)) (key:=λy:Int×Int×Ml=>y.1) (λ_=>rfl) (show i<k by omega)).2⟩
 ·rw[agI,awE e]
 ·obtain⟨i,hi,rfl⟩:=h!.1 a;have hi:=n!.1 hi;rw[d];show 1<=(i:Int)+1/\(i:Int)+1<=(k:Int);omega
 ·rw[left_eq];by_cases j:mF k n=k
  ·rw[if_pos j,j];exact .inl ⟨by simp,rfl⟩
  ·rw[if_neg j];exact .inr ⟨mF k n+1,k - mF k n,rfl,by omega,by omega,by omega,rfl⟩
abbrev XF:List Nat:= [83,84,79,82,69]
abbrev aEQ:List Nat:= [85,78,67,72,65,78,71,69,68,83,73,78,67,69]
abbrev aHa:List Nat:= [43,70,76,65,71,83,46,83,73,76,69,78,84]
def asi(n:Nat):Wds:=.cons 1 [49,58,42] .nil (.cons 3 [] (.cons 1 aEQ .nil (.cons 1 (dP n) .nil .nil)) (.cons 1 aHa .nil (.cons 3 [] (.cons 1 yS .nil .nil) .nil)))
def SN(uid:Bool)(n:Nat):Ln.Got:=⟨1,if uid=true then .cons 1 [120] .nil (.cons 1 [85,73,68] .nil (.cons 1 XF .nil (asi n))) else .cons 1 [120] .nil (.cons 1 XF .nil (asi n))⟩
def MJ(uid:Bool)(n:Nat):List Nat:= [120,32]++(if uid=true then [85,73,68,32] else [])++ [83,84,79,82,69,32,49,58,42,32,40,85,78,67,72,65,78,71,69,68,83,73,78,67,69,32]++dP n++ [41,32,43,70,76,65,71,83,46,83,73,76,69,78,84,32,40,121,41,13,10]
theorem aHs(uid:Bool)(n:Nat):Ik.asG uid n=MJ uid n:=by cases uid<;>rfl
theorem aCN{uid:Bool}{n:Nat}(a:n<20):Fed (MJ uid n) [SN uid n]:=by
 have h:=Fed.mk (l:= [Ik.aAp uid n]) (s:=Ik.asG uid n) (by have hd:(Ik.dgt n).length<=2:=(by unfold Ik.dgt;split<;>simp);unfold Ik.asG;cases uid<;>simp<;>omega) (by simp) (Ik.aN0 uid n a);rw[aHs]at h;have e:aan [Ik.aAp uid n]= [SN uid n]:=by cases uid<;>rfl
 rwa[e]at h
end Go.Im
namespace Go.Proofs.Im
section
variable{ps pc im:Pos}{C:Acc}{uid:Bool}{n k:Nat}{st:Sn}{s2:List Nat}{ks:Int×Int×List (Int×Int×Int)}{fr:List (Int×Int×Ml)}
theorem aB6(a:n<20):StoreW (asi n) true (n:Int) [49,58,42] yS where
 set:=⟨⟨1,[49,58,42],.nil⟩,rfl,by decide,rfl⟩
 len:=rfl
 since:=λ_=>⟨⟨3,[],.cons 1 aEQ .nil (.cons 1 (dP n) .nil .nil)⟩,⟨1,aEQ,.nil⟩,⟨1,dP n,.nil⟩,n,rfl,rfl,rfl,rfl,rfl,⟨by decide,by decide⟩,rfl,rfl,rfl,rfl,a,rfl⟩
 zero:=λe=>by cases e
 mode:=⟨⟨1,aHa,.nil⟩,rfl,rfl,⟨by decide,by decide⟩,rfl⟩
 flag:=⟨⟨3,[],.cons 1 yS .nil .nil⟩,⟨1,yS,.nil⟩,rfl,rfl,rfl,rfl,rfl,aOe⟩
theorem aE1{a:Int}(h:1<=a/\a<=20):ajU [49,58,42] a=some [(1,a)]:=by
 unfold ajU;rw[if_pos h,if_neg (by decide),if_pos rfl]
theorem aAk(hn:n<20)(p:st.vw=some ks)(B:st.only=false)(Q:0<=st.cnt/\st.cnt<1000)(hs:1<=yJ uid ks.2.2/\yJ uid ks.2.2<=20)
  (W:Stores st.acc ks uid true (n:Int) yS ((fQ st.acc.mails ks.1 0 ks.2.2).filter λx=>inM [(1,yJ uid ks.2.2)] (nH uid x)) C fr s2) (o:s2.length<=100/\∀c∈s2,c<256)
  (M:CanUpd C (ks.1,ks.2.1,tells C ks.1 ks.2.2 fr)) (z:amu C (ks.1,ks.2.1,tells C ks.1 ks.2.2 fr)):
  ∃l,yj pc im ps (SN uid n) st (okT [120] s2) true l/\l.acc=C:=by
 have b:=aE1 hs;have E:=aB6 hn;have hu:∀k,some (ks.1,ks.2.1,tells C ks.1 ks.2.2 fr)=some k->CanUpd C k:=λk e=>by cases e;exact M
 have S:Ox C (some (ks.1,ks.2.1,tells C ks.1 ks.2.2 fr))= []:=aqp z;have a:Gz pc im ps ((SN uid n).words.drop 2) (foldM (if uid=true then [85,73,68] else XF)) {st with cnt:=st.cnt+1} (anL 0 s2 false false (!uid)) [] {st with cnt:=st.cnt+1,acc:=C,vw:=some (ks.1,ks.2.1,tells C ks.1 ks.2.2 fr)}:=by
  have i:({st with cnt:=st.cnt+1}:Sn).vw≠none:=by rw[show({st with cnt:=st.cnt+1}:Sn).vw=st.vw from rfl,p];simp
  cases uid with
  |false=>
   exact Gz.of (n:=3) (f:=UR) (u:=true) (by decide) rfl (.inr (.inr (.inr ⟨rfl,i⟩))) (λbb ir vw P h0 Z h L F J pl ib cb fb vm vl vv I q=>by
    obtain⟨m,e,r⟩:=amz q p B E b W;exact⟨m,e,r⟩) rfl
  |true=>
   exact Gz.behind (n:=3) (f:=UR) (x:=⟨1,XF,.nil⟩) rfl rfl ⟨by decide,by decide⟩ rfl (.inr (.inr (.inr ⟨rfl,i⟩))) (λbb ir vw P h0 Z h L F J pl ib cb fb vm vl vv I q=>by
    obtain⟨m,e,r⟩:=amz q p B E b W;exact⟨m,e,r⟩) rfl
 have g:(okT [120] s2).length<=2000000:=by unfold okT;split<;>simp[lineS,dV]<;>omega
 have e1:yE 0 [120] s2 [] false ({st with cnt:=st.cnt+1,acc:=C,vw:=some (ks.1,ks.2.1,tells C ks.1 ks.2.2 fr)}:Sn)=okT [120] s2:=by
  unfold yE;rw[if_neg (by decide),if_neg (by simp)];show []++Ox C (some (ks.1,ks.2.1,tells C ks.1 ks.2.2 fr))++okT [120] s2=_;rw[S];rfl
 have h0:∃y,(SN uid n).words.get? 1=some y/\y.kind=1/\y.text=(if uid=true then [85,73,68] else XF):=by
  cases uid
  ·exact⟨⟨1,XF,.nil⟩,rfl,rfl,rfl⟩
  ·exact⟨⟨1,[85,73,68],.nil⟩,rfl,rfl,rfl⟩
 have hx:∃x,(SN uid n).words.get? 0=some x/\x.kind=1/\x.text= [120]:=by
  cases uid
  ·exact⟨⟨1,[120],.nil⟩,rfl,rfl,rfl⟩
  ·exact⟨⟨1,[120],.nil⟩,rfl,rfl,rfl⟩
 obtain⟨y,v,w,j⟩:=h0;obtain⟨x,s,t,d⟩:=hx;rw[<-j]at a;have G:=yj.cmd (x:=x) (y:=y) (kk:=0) (tx:=s2) (last:=false) (bare:=false) (part:=!uid) (s2:= []) (by rfl) s t v w (by rw[d];exact⟨by decide,by decide⟩) (by rw[j];cases uid<;>exact⟨by decide,by decide⟩) ⟨Q.1,by omega⟩ a (.inl rfl) ⟨by omega,o.2⟩ ⟨by simp,by simp⟩ (λ_ _ k e=>hu k e) (by rw[d,e1];exact g) (λ_ _ _ k e=>by cases e;exact z);rw[d,e1]at G;exact⟨_,G,rfl⟩
end
end Go.Proofs.Im
namespace Go.Vm
theorem aCu{a:Nat}(b:a<256)(h:Hp):jV U (Y .u8 (a:Int)) h=D (Y U (a:Int)) h:=Sz (by omega) (by omega)
theorem aLC(b:Bool)(h:Hp):aI .neq .bool (K b) (K b) h=D (K false) h:=by cases b<;>rfl
end Go.Vm
namespace Go.Im
theorem aHL{t:List Nat}:okT [120] (sQ++t)= [120,32,79,75,32,91,77,79,68,73,70,73,69,68,32]++t++ [93,32,100,111,110,101,13,10]:=by
 unfold okT;rw[if_neg (by simp)];simp[lineS,dV]
def AU(n i:Nat):List Int:=(((a! i).map msF).filter (iD true (n:Int))).map (nH true)
theorem aAW(n i:Nat):AU n (i+1)=AU n i++(if((i:Int)+2)>(n:Int) then [(i:Int)+1] else []):=by
 unfold AU;have b:iD true (n:Int) (msF i)=decide (((i:Int)+2)>(n:Int)):=by simp[iD,msF,mlF]
 rw[k!,g!,A!,g!,i!,t!,C!,E!,b];by_cases h:((i:Int)+2)>(n:Int)
 ·rw[decide_eq_true h,if_pos rfl,if_pos h];rfl
 ·rw[decide_eq_false h,if_neg (by simp),if_neg h];rfl
theorem aCE(n i:Nat):(AU n i).length<=i:=by
 unfold AU;rw[List.length_map];exact B! (x! _ _) (by simp)
end Go.Im
namespace Go.Proofs.Im
section
variable{h h' g hH:Hp}{F I:Pos->Prop}{ps pl ib pc im:Pos}{uid:Bool}{n k a:Nat}
theorem aLO(k:Nat)(b:k<=20):DAcc (fB k) ((a! k).map emF):=DAcc.fill b
abbrev ahg(o:Out):Prop:=aW j! [.tmp 6] (λr _=>r=K true) o
theorem ahg.ret{fr:Go.Vm.F}(b:fr.get (b! 6)=some (K true)):ahg (.ret fr h):=aW.ret (r:=K true) (qT1 b) rfl
theorem aCk(uid:Bool)(e:1<=k/\k<=12)(r:n<20){st:Sn}(j:st=stA (fB k) 2):
  ∃b,Alls pc im ps [SN uid n] st (okT [120] (if mF k n=k then [] else sQ++fM (mF k n+1) (k - mF k n))) b/\b.acc=gY k (mF k n):=by
 subst j;have m:mF k n<=k:=by unfold mF;omega
 have W:=asE (n:=n) uid e;have f:(if mF k n=k then([]:List Nat) else sQ++fM (mF k n+1) (k - mF k n)).length<=100/\∀c∈(if mF k n=k then([]:List Nat) else sQ++fM (mF k n+1) (k - mF k n)),c<256:=by
  split
  ·exact⟨by simp,by simp⟩
  ·have o:=je (n:=mF k n+1) (by omega);have t:=je (n:=mF k n+1+(k - mF k n) - 1) (by omega);have s:(fM (mF k n+1) (k - mF k n)).length<=10/\∀c∈fM (mF k n+1) (k - mF k n),c<256:=by
    unfold fM;split
    ·exact⟨by omega,o.2.1⟩
    ·refine⟨by rw[l!,l!,show([58]:List Nat).length=1 from rfl];omega,λc d=>?_⟩;rcases r!.1 d with q|q
     ·exact o.2.1 c q
     ·rcases r!.1 q with q|q
      ·simp at q;omega
      ·exact t.2.1 c q
   refine⟨by simp;omega,λc d=>?_⟩;rcases r!.1 d with q|q
   ·have:∀c∈sQ,c<256:=by decide
    exact this c q
   ·exact s.2 c q
 have l:tells (gY k (mF k n)) (dR (fB k) 1).1 (dR (fB k) 1).2.2 ((a! (mF k n)).map λi:Nat=>((i:Int)+1,(i:Int)+1,gF k (mF k n) i))=wJ k (mF k n) (mF k n):=by
  have:=ahC m (mF k n) (z! _);rwa[List.take_of_length_le (by simp)]at this
 obtain⟨b,u,p⟩:=aAk (pc:=pc) (im:=im) (ps:=ps) (uid:=uid) (st:=stA (fB k) 2) r rfl rfl ⟨by simp,by simp⟩ (by rw[alr uid e.1];omega) W f (by rw[l];exact RV e.2 m) (by rw[l];exact awv k (mF k n) (mF k n) _);exact⟨b,Alls.one u rfl,p⟩
theorem avP(hn:n<256)(ha:a<256)(hG:Ik.aJ<=hH.next.nat):∃h',Lh [Y .u8 (n:Int),Y .u8 (a:Int),K uid] hH=D (K true) h':=by
 obtain⟨k,hk⟩:∃k,k=n % 12+1:=⟨_,rfl⟩
 obtain⟨t,ht⟩:∃t,t=a % 20:=⟨_,rfl⟩
 have Q:1<=k/\k<=12:=by omega
 have S:t<20:=by omega
 have ek:(1:Int)+(((n:Int)).tmod 12)=(k:Int):=by
  show(1:Int)+((n % 12:Nat):Int)=_;omega
 have et:((a:Int)).tmod 20=(t:Int):=by
  show((a % 20:Nat):Int)=_;omega
 have af:=aCu hn hH;obtain⟨h1,ai,c1,-⟩:=mkW hH (O (N lT true) (times k [H []]));have B1:wR lT 16 [(H [])] (Y U (k:Int)) (Y U (k:Int)) hH=D (.slice hH.next 0 k (.kn k)) h1:=by rw[ai];exact atf (by omega)
 have k1:Kn h1 hH.next (O (N lT true) ((S! k ([]:List Nat)).map fF).flatten):=by
  have:((S! k ([]:List Nat)).map fF).flatten=times k [H []]:=by rw[ap2];simp[fF]
  rw[this,ai];exact Kn.new _ _
 have r1:=Kn.rws (c:=fF) (sz:=1) (cp:=.kn k) k1 (λ_=>rfl) (λ_ _ _ _ e=>by cases e;simp);rw[List.length_replicate]at r1;obtain⟨ps,h2,F,pl,ib,cb,fb,vm,vl,I,e2,a2,c2,f2⟩:=aEI r1 (by omega);have d:=aLO k (by omega);obtain⟨b,hC,hb⟩:=d.aLQ;obtain⟨pc,im,h3,e3,w3,az⟩:=aOf a2 hC (by have:=c1.next;have:=c2.next;omega);rw[hb]at w3;obtain⟨F',J',a0,aL,an,ap,a7,a5,a9,I',W,hf,c3⟩:=w3;have ag:=aCu ha h3;obtain⟨a3,al,ah⟩:=aCk (pc:=pc) (im:=im) (ps:=ps) (k:=k) (n:=t) uid Q S rfl;have av:=(je (n:=t) (by omega)).1;have ak:∀c∈MJ uid t,c<256:=by
  have hd:=(je (n:=t) (by omega)).2.1;intro c hc;unfold MJ at hc;simp only[r!]at hc;rcases hc with((((q|q)|q)|q)|q)
  ·exact(by decide:∀c∈([120,32]:List Nat),c<256) c q
  ·cases uid
   ·simp at q
   ·exact(by decide:∀c∈([85,73,68,32]:List Nat),c<256) c (by simpa using q)
  ·exact(by decide:∀c∈([83,84,79,82,69,32,49,58,42,32,40,85,78,67,72,65,78,71,69,68,83,73,78,67,69,32]:List Nat),c<256) c q
  ·exact hd c q
  ·exact(by decide:∀c∈([41,32,43,70,76,65,71,83,46,83,73,76,69,78,84,32,40,121,41,13,10]:List Nat),c<256) c q
 have ar:(MJ uid t).length<=1000:=by unfold MJ;cases uid<;>simp<;>omega
 obtain⟨h4,e4,w4⟩:=aEM W (by have:=c1.next;have:=c2.next;have:=c3.next;omega) (aCN S) al;obtain⟨F4,J4,a1,aM,ao,aq,a8,a6,ba,I4,W4,aw,c4⟩:=w4;have a4:=W4.acc;rw[ah]at a4;have hm:mF k t<=k:=by unfold mF;omega
 obtain⟨vr,M,e5,o5,c5⟩:=QI a4 (Cm Q.2 hm);have R5:=o5.rws dB;obtain⟨f,u⟩:∃f:List Nat,f=(if uid=true then [85,73,68,32] else []):=⟨_,rfl⟩
 have aD:f.length<=4:=by rw[u];split<;>simp
 have s1:∀g,aI .add .none (H [120,32]) (H f) g=D (H ([120,32]++f)) g:=λg=>gu (by simp;omega);have s2:∀g,aI .add .none (H ([120,32]++f)) (H [83,84,79,82,69,32,49,58,42,32,40,85,78,67,72,65,78,71,69,68,83,73,78,67,69,32]) g=D (H ([120,32]++f++ [83,84,79,82,69,32,49,58,42,32,40,85,78,67,72,65,78,71,69,68,83,73,78,67,69,32])) g:=λg=>gu (by simp;omega);have s3:∀g,aI .add .none (H ([120,32]++f++ [83,84,79,82,69,32,49,58,42,32,40,85,78,67,72,65,78,71,69,68,83,73,78,67,69,32])) (H (dP t)) g=D (H ([120,32]++f++ [83,84,79,82,69,32,49,58,42,32,40,85,78,67,72,65,78,71,69,68,83,73,78,67,69,32]++dP t)) g:=λg=>gu (by simp;omega);have aj: [120,32]++f++ [83,84,79,82,69,32,49,58,42,32,40,85,78,67,72,65,78,71,69,68,83,73,78,67,69,32]++dP t++ [41,32,43,70,76,65,71,83,46,83,73,76,69,78,84,32,40,121,41,13,10]=MJ uid t:=by rw[u];rfl
 have s4:∀g,aI .add .none (H ([120,32]++f++ [83,84,79,82,69,32,49,58,42,32,40,85,78,67,72,65,78,71,69,68,83,73,78,67,69,32]++dP t)) (H [41,32,43,70,76,65,71,83,46,83,73,76,69,78,84,32,40,121,41,13,10]) g=D (H (MJ uid t)) g:=λg=>by rw[gu (by simp;omega),aj]
 have dg:∀g,uY [Y U (t:Int)] g=D (H (dP t)) g:=λg=>zI (ahb (n:=t) (by omega)) g;rw[ahx]
 suffices T:ahg (vS (T.set (some (K uid)) (b! 2) (T.set (some (Y .u8 (a:Int))) (b! 1) (T.set (some (Y .u8 (n:Int))) (b! 0) T.nil))) hH) by
  obtain⟨r,h',e,rfl⟩:=T;exact⟨h',e⟩
 have rest:∀fm:Go.Vm.F,fm.get (b! 7)=some (Y U (k:Int))->fm.get (b! 10)=some (Y U (t:Int))->fm.get (b! 12)=some (H (okT [120] (if mF k t=k then [] else sQ++fM (mF k t+1) (k - mF k t))))->fm.get (b! 13)=some .aO->fm.get (b! 14)=some vr->fm.get (b! 15)=some (Y U 0)->
   ahg (qQ (Bz 0 (dH pR lf fm M)) (aB (aB mV (aT (.tmp 71) (aB pK p!) q!)) (aB pJ p!))):=by
  intro fm Z v m p w C;refine Oc.then (dW (n:=k) (λ μ fr g=>∃(i:Nat) (l:V),fr.get (b! 7)=some (Y U (k:Int))/\fr.get (b! 10)=some (Y U (t:Int))/\fr.get (b! 12)=some (H (okT [120] (if mF k t=k then [] else sQ++fM (mF k t+1) (k - mF k t))))/\fr.get (b! 13)=some l/\fr.get (b! 14)=some vr/\fr.get (b! 15)=some (Y U (i:Int))/\i+μ=k/\
    Nw M g/\dA M.next.nat (λ_=>False) (flat fH) fZ 1 g l (AU t i))
   (A:=λfr g=>∃l,fr.get (b! 12)=some (H (okT [120] (if mF k t=k then [] else sQ++fM (mF k t+1) (k - mF k t))))/\fr.get (b! 13)=some l/\Nw M g/\dA M.next.nat (λ_=>False) (flat fH) fZ 1 g l (AU t k)) (B:=λ_ _=>False) (by rw[dO];omega) ?_ ?_) ?_ ?_
  ·exact⟨0,.aO,Z,v,m,p,w,C,by omega,Nw.refl _,dA.nil _ _ _ _ _ _⟩
  ·rintro μ fr g ⟨i,l,Z,v,m,p,w,C,hi,c,o⟩;by_cases hz:μ=0
   ·have aa:i=k:=by omega
    subst aa;simp(disch:=omega)only[vvB,seval,pR,vz,Z,C];have eL:((i:Int)<(i:Int))=False:=eq_false (by omega);simp(disch:=omega)only[vvB,seval,eL];exact⟨rfl,l,qK2 m,qK2 p,c,o⟩
   ·have aa:i<k:=by omega
    have am:(gY k (mF k t)).mails[i]?=some (gF k (mF k t) i):=by show((a! k).map (gF k (mF k t)))[i]?=_;rw[c!,e! aa];rfl
    have au:=c.next;have P:∀g',Nw M g'->∃(ii:Pos) (q:Nat) (vk:V) (G:Hp),(∀g,aX 8 vr (Y U (i:Int)) g=D (X ii q) g)/\aF (X ii (q+4)) g'=D vk g'/\UF [vk,H [121]] g'=D (K (decide (((i:Int)+2)<=(t:Int)))) G/\Nw g' G:=λg' c'=>by
     obtain⟨ii,q,cs,ix,ex,-,-,-,ld,-⟩:=(R5.nw dB c').elt am;obtain⟨vk,vs,rfl,rk,-⟩:=ex;have E:=ld g' rfl 4 vk rfl;obtain⟨G,e,c2⟩:=aGA (s:= [121]) rk (by rw[aoN];split<;>simp);have hb:((gF k (mF k t) i).keys.any λk=>decide (k= [121]))=decide (((i:Int)+2)<=(t:Int)):=by
      rw[aoN];by_cases h:i<mF k t
      ·rw[if_pos h,decide_eq_true (by unfold mF at h;omega)];rfl
      ·rw[if_neg h,decide_eq_false (by unfold mF at h;omega)];rfl
     rw[hb]at e;exact⟨ii,q,vk,G,ix,E,e,c2⟩
    have L:=aAW t i;by_cases J:((i:Int)+2)>(t:Int)
    ·rw[if_pos J]at L;have eG:(((i:Int)+2)>(t:Int))=True:=eq_true J;have ax:=aCE t i;obtain⟨v',G,z,o2,ad,aR,aE⟩:=o.ao0 (bt:=8) (x:=(i:Int)+1) (by omega) rfl (by omega);have z:bK fZ 1 8 l (.slice g.next 0 1 (.kn 1)) (g.new (O (N fZ true) [iV ((i:Int)+1)]))=D v' G:=z;have ae:Nw M G:=c.own ad λj e=>(o.eY e).1;obtain⟨ii,q,vk,g3,ix,E,eH,y⟩:=P G ae;rw[<-L]at o2;simp(disch:=omega)only[vvB,seval,pR,vz,BR,BQ,BP,PN,BO,Z,v,p,w,C,eG,z,ix,E,eH,aLC];exact⟨μ - 1,by omega,i+1,v',qK2 Z,qK2 v,qK2 m,qK0,qK2 w,qK1,by omega,ae.trans y,o2.nw (aK _) y⟩
    ·rw[if_neg J,List.append_nil]at L;have eG:(((i:Int)+2)>(t:Int))=False:=eq_false J;obtain⟨ii,q,vk,g3,ix,E,eH,y⟩:=P g c;rw[<-L]at o;simp(disch:=omega)only[vvB,seval,pR,vz,BR,BQ,BP,BO,Z,v,w,C,eG,ix,E,eH,aLC];exact⟨μ - 1,by omega,i+1,l,qK2 Z,qK2 v,qK2 m,qK2 p,qK2 w,qK1,by omega,c.trans y,o.nw (aK _) y⟩
  ·rintro fr g ⟨l,m,p,c,o⟩;have ab:AU t k=(a! (k - mF k t)).map λj=>((mF k t+1+j:Nat):Int):=left_eq true t k;have ll:=λh=>o.len h;by_cases he:mF k t=k
   ·have h0:AU t k= []:=by rw[ab,he];simp
    rw[h0]at ll;rw[if_pos he,aNW]at m;have eZ:((([]:List Int).length:Nat):Int)=0:=rfl;simp(disch:=omega)only[vvB,seval,mV,pK,m,p,ll,eZ,auw];exact ahg.ret (qK0)
   ·rw[if_neg he,aHL]at m;have ay:(AU t k).length=k - mF k t:=by rw[ab];simp
    have eZ:(((AU t k).length:Nat):Int)=0↔False:=⟨λe=>by omega,λe=>e.elim⟩
    have eZ:((((AU t k).length:Nat):Int)=0)=False:=propext eZ;have rr:Rws (λj=>M.next.nat<=j.nat) (flat fH) 1 g l (AU t k):=o.rows (aK _) (λ_ _ q=>q.elim) λj hb _=>hb;obtain⟨G,z,ad⟩:=aBz rr ab (by omega) (by omega) (by omega);have hT:(fM (mF k t+1) (k - mF k t)).length<=10:=by
     have q1:=(je (n:=mF k t+1) (by omega)).1;have q2:=(je (n:=mF k t+1+(k - mF k t) - 1) (by omega)).1;unfold fM;split
     ·omega
     ·rw[l!,l!,show([58]:List Nat).length=1 from rfl];omega
    have t1:∀g,aI .add .none (H [120,32,79,75,32,91,77,79,68,73,70,73,69,68,32]) (H (fM (mF k t+1) (k - mF k t))) g=D (H ([120,32,79,75,32,91,77,79,68,73,70,73,69,68,32]++fM (mF k t+1) (k - mF k t))) g:=λg=>gu (by simp;omega);have t2:∀g,aI .add .none (H ([120,32,79,75,32,91,77,79,68,73,70,73,69,68,32]++fM (mF k t+1) (k - mF k t))) (H [93,32,100,111,110,101,13,10]) g=D (H ([120,32,79,75,32,91,77,79,68,73,70,73,69,68,32]++fM (mF k t+1) (k - mF k t)++ [93,32,100,111,110,101,13,10])) g:=λg=>gu (by simp;omega);simp(disch:=omega)only[vvB,seval,mV,pJ,m,p,ll,eZ,z,t1,t2,auw];exact ahg.ret (qK0)
  ·intro fr g q;exact q.elim
 cases uid with
 |false=>
  have ac:f= []:=by rw[u];rfl
  rw[ac]at s1 s2 s3 s4;generalize hX:aB (aB mV (aT (.tmp 71) (aB pK p!) q!)) (aB pJ p!)=Z6 at rest;simp(disch:=omega)only[vvB,seval,vS,hX,ED,EC,Ez,Ey,Ew,Eu,Et,Es,BZ,BX,BV,BU,af,ek,B1,e2,fD,e3,ag,et,s1,s2,s3,s4,dg,e4,e5];exact rest _ (qK0) (qK0) (qK0) (qK0) (qK0) (qK0)
 |true=>
  have ac:f= [85,73,68,32]:=by rw[u];rfl
  rw[ac]at s1 s2 s3 s4;generalize hX:aB (aB mV (aT (.tmp 71) (aB pK p!) q!)) (aB pJ p!)=Z6 at rest;simp(disch:=omega)only[vvB,seval,vS,hX,ED,EC,Ez,Ey,Ew,Eu,Et,Es,TW,BZ,BX,BV,BU,af,ek,B1,e2,fD,e3,ag,et,s1,s2,s3,s4,dg,e4,e5];exact rest _ (qK0) (qK0) (qK0) (qK0) (qK0) (qK0)
end
theorem axM{z:Int}(h:(Lit.int .u8 z).wf=true):∃a:Nat,z=(a:Int)/\a<256:=by
 have b:0<=z/\z<=255:=by
  unfold Lit.wf at h;simp only[Bool.and_eq_true,decide_eq_true_eq]at h;exact h
 exact⟨z.toNat,by omega,by omega⟩
theorem walkOfImapSince{o:Type}{f:TypeId×Value->o}{b:Nat->Bool}{d:Bool}(W:Go.World){r:Reach}{g base:Nat}{v0 v1 v2:Value}{q s t:DataW o}{x y z:List MemPlace}
  (k:Value.okWide j! W r g 5 v0) (h:DataW.Trod f j! W base b d 5 v0 q x) (l:Value.okWide j! W r g 5 v1) (i:DataW.Trod f j! W base b d 5 v1 s y)
  (m:Value.okWide j! W r g 4 v2) (j:DataW.Trod f j! W base b d 4 v2 t z):
  Calls j! 4 #[v0,v1,v2] W λe p=>e=.returned (.bool true)/\Below W.heap.size W p:=by
 obtain⟨E,rfl,-,-,B⟩:=open_int P! k h;obtain⟨G,rfl,-,-,C⟩:=open_int P! l i;obtain⟨uid,rfl,-⟩:=open_bool Tryz.underlying4 m j;obtain⟨n,rfl,w⟩:=axM B;obtain⟨a,rfl,v⟩:=axM C;obtain⟨u,e⟩:=avP (hH:=h0 aJ) (uid:=uid) w v (by decide);exact awL (cargs:= [_,_,_]) (args:= [_,_,_]) apD Tryz.func4 kR (c:=codeOf Tryz.f4) kR (Seen.empty aJ W) ⟨_,_,gZ _ .u8 n,⟨_,_,gZ _ .u8 a,⟨_,[],yu _ uid,rfl,rfl⟩,rfl⟩,rfl⟩ e
end Go.Proofs.Im
