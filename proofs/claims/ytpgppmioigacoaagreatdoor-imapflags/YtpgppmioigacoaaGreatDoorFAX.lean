/- Lemmas. No conditions. -/
import Derived.Test.YtpgppmioigacoaaGreatDoorFAW
import Derived.Test.YtpgppmioigacoaaGreatDoorFAU
import Derived.Test.YtpgppmioigacoaaGreatDoorFAT
import Derived.Test.YtpgppmioigacoaaGreatDoorFAV
set_option linter.all false
set_option maxRecDepth 100000
open List renaming getElem?_eq_some_iff→a!,length_append→b!,getElem?_eq_getElem→c!,range→e!,length_map→g!,drop_eq_getElem_cons→h!,getElem?_drop→i!,mem_map→l!,getElem?_append_left→n!,getElem?_map→o!,length_take→p!,length_drop→q!,append_nil→t!,filter_eq_self→v!,map_cons→w!,getElem?_take→y!,findIdx?_eq_some_iff_getElem→z!,take_length→B!,getElem?_append_right→C!,mem_or_eq_of_mem_set→D!,findIdx?_eq_none_iff→E!,take_append_drop→G!,length_filter_le→H!,range'→I!,mem_of_getElem?→J!,take_add_one→K!,findIdx?_nil→L!,take_left'→M!,map_append→N!,map_take→O!,map_set→P!,any→U!
open Go.Vm.Pos renaming of→d!
open Nat renaming mul_one→j!,le_refl→k!,add_assoc→x!,add_zero→F!,zero_add→Q!,le_trans→R!
open Go.Vm.Out renaming nor→r!,ret→A!
open Go.Proofs.Tryz renaming prog→u!
open Go.Vm.V renaming int→Y,ptr→X,bool→K,str→H
open Go.IntKind renaming i64→U
open Go.Vm.Ob renaming cells→O
open Go.Vm.Wr renaming rw→N
open Go.Vm.R renaming ok→D
noncomputable section
open Go Go.Vm Go.Ln Go.Proofs Go.Im Go.Proofs.Im
namespace Go.Im
def wE:El Wd:=λ_ _ x cs=>∃vk,cs=Xz x.kind x.text vk
def aEy:wE.Stable:=λe _ _=>e
def aN1(t:TypeId)(z:V):QG t [z]=some (O (N t true) [z],λp=>X p 0):=(rfl)
end Go.Im
namespace Go.Proofs.Im
section
variable{h h' g h0:Hp}{P F I J Z:Pos->Prop}{ps pl ib ir pc im:Pos}{C:Acc}{cb:Cap}{fb uid only f:Bool}{v vm vl vv vw vk:V}{L:List V}{s:List Nat}{w:Wds}{st:Sn}{bb:Nat}{x:Wd}{d:Wr}
def WS.aTB(t:WS P h v w)(hl:w.len=1)(h0:w.get? 0=some x):Rws P wE 3 h v [x]:=by
 obtain⟨cs,o,i,hi,at_⟩:=t;obtain⟨k,l,vk,m,-⟩:=WAt.get at_ h0;have e:cs.length=3:=by rw[o.len,hl]
 have j:cs=Xz x.kind x.text vk:=by
  obtain⟨a,b,c,rfl⟩:∃a b c,cs= [a,b,c]:=by
   match cs,e with
   | [a,b,c],_=>exact⟨a,b,c,rfl⟩
  simp at k l m;rw[k,l,m]
 refine⟨[cs],.cons ⟨vk,j⟩ .nil,λc i=>by simp at i;rw[i];exact e,?_,i,hi⟩;rw[hl]at o;simpa using o
def WS.atR{ws:Wds}{k:Nat}{x:Wd}(t:WS P h v ws)(e:ws.get? k=some x):
  ∃j q vk,(∀h',aX 3 v (Y U (k:Int)) h'=D (X j q) h')/\bH 3 (X j q) h=D (aCI x.kind x.text vk) h/\UO P h vk x.kids:=by
 obtain⟨cs,o,-,i,at_⟩:=t;have l:=Wds.MP e;obtain⟨a,b,vk,c,n⟩:=WAt.get at_ e;obtain⟨j,q,e1,-,-,e2⟩:=o.atN l;refine⟨j,q,vk,e1,?_,n⟩;rw[e2 h rfl];obtain⟨l0,x0⟩:=a!.1 a;obtain⟨l1,p⟩:=a!.1 b;obtain⟨m,r⟩:=a!.1 c;rw[h! l0,h! l1,h! m,x0,p,r];rfl
def azg(b:x.kind=1):∃g',Fq [.agg (V.ofList (Xz x.kind x.text vk))] g=D (K false) g'/\Nw g g':=by
 refine⟨g.new (O (N 149 true) (Xz x.kind x.text vk)),?_,Nw.new _ _⟩;have e1:=(Kn.new g (O (N 149 true) (Xz x.kind x.text vk))).ld (q:=0) (x:=Y U x.kind) rfl
 have c:=bxW 149 x.kind x.text vk g;have a:(x.kind=1)=True:=eq_true b;rw[arC];simp(disch:=omega)only[vvB,seval,ak0,ad1,adZ,V.cZ,e1,a,ne_eq,not_true_eq_false,decide_false];simp only[bV,bQ,vvB,seval,bT]
def aDO(x:V)(g:Hp):dD uw (.func (.func 155) .nil .nil) [x] g=Fq [x] g:=(rfl)
def Rq.aOP(q:Rq bb h0 Z h pc im ps ir uid w s st L vw P F J pl ib cb fb vm vl vv I){r t:Pos->Prop}{n m:Pos}{k:Cap}{l:Bool}{p o:V}(a:dL h' r ps C n m k l p o t)(c:Ch (λj=>j=ps) h h')(f3:∀j,r j->j=ps\/h.next.nat<=j.nat):
  Rq bb h0 Z h' pc im ps ir uid w s {st with acc:=C} L vw P r J n m k l p o vv t:=by
 have i:=q.wd.fj;have b:=q.wd.acc.foot.1;have d:World h' pc im ps {st with acc:=C} r J n m k l p o vv t:=by
  refine⟨a,q.wd.con.ch c (λe=>(i _ b).2.1 e.symm),q.wd.map.ch c (λe=>(i _ b).2.2 e.symm),q.wd.view.ch c (λj f e=>(i _ b).1 (e▸f)),q.wd.ne,λj f=>?_,q.wd.jn⟩;rcases f3 j f with rfl|hl
  ·exact i _ b
  ·have y:=q.wd.con.2;have z:=q.wd.map.2;exact⟨λu=>by have:=q.wd.view.lt j u;omega,λe=>by rw[e]at hl;omega,λe=>by rw[e]at hl;omega⟩
 refine q.turn d c (λj e=>.inl (by rw[e];exact b)) (λj f=>?_);rcases f with f|f|f|f
 ·rcases f3 j f with rfl|hl
  ·exact .inl (.inl b)
  ·exact .inr hl
 ·exact .inl (.inr (.inl f))
 ·exact .inl (.inr (.inr (.inl f)))
 ·exact .inl (.inr (.inr (.inr f)))
def Un:Go.Vm.F->Hp->Out:=(aB (aB Rh (tT 64 (aB aCE A!) r!)) (aB Rf (aB Kt (aB (aB Q8 (tT 85 Q7 r!)) (aB Q5 (aB QZ (aB (bD 0 (aB (aB QY (tT 96 r! QX)) (tT 96 (aB aCE A!) (aB QW (tT 103 (aB aea A!) (aB QV (tT 109 (aB ad9 A!) r!))))))) (aB QU (aB QT (aB QS (aB (aB QO (tT 122 (aB ad9 A!) r!)) auP)))))))))))
def atE:ape=(aB Ky (aB Kw (aB (aB Kv (tT 27 (aB aCE A!) r!)) (aB Ku (aB Kt (aB Kr (aB (aB Kq (tT 44 (aB VI (aB VH (aB Rk Kt))) r!)) Un))))))):=rfl
def aTC(h:Hp)(a b:Ob):((aK 2 h).put h.next (some a)).put h.next.succ (some b)=(h.new a).new b:=rfl
end
end Go.Proofs.Im
namespace Go.Im
def find_range{e:Type}{f:Nat->e}{key:e->Int}(d:∀i,key (f i)=(i:Int)+1){k i:Nat}(hi:i<k):
  ((e! k).map f).findIdx? (λy=>decide (key y=(i:Int)+1))=some i/\((e! k).map f).find? (λy=>decide (key y=(i:Int)+1))=some (f i):=by
 have c:((e! k).map f).findIdx? (λy=>decide (key y=(i:Int)+1))=some i:=by
  rw[z!];refine⟨by simpa using hi,by simp[d],λj hj=>?_⟩;simp[d];omega
 refine⟨c,?_⟩;rw[FU,c];show((e! k).map f)[i]?=_;rw[o!,List.getElem?_range hi];rfl
section
variable{g:Nat->Ml}(b:∀i,(g i).id=(i:Int)+1)(a:∀i,(g i).mem= [(1,(i:Int)+1)])
include a
def abr:∀k:Nat,Wn ((e! k).map g) 1=(e! k).map λi:Nat=>((i:Int)+1,g i)
 |0=>rfl
 |k+1=>by
  rw[List.range_succ,N!,N!,w!,List.map_nil,aA8,abr k,a];rfl
include b
def anj{k:Nat}(t:Nat->Int):∀d s:Nat,s+d=k->fH ((e! k).map g) 1 s ((I! s d).map λi:Nat=>((i:Int)+1,(i:Int)+1,t i))=(I! s d).map λi:Nat=>((i:Int)+1,(i:Int)+1,g i)
 |0,_,_=>rfl
 |d+1,s,h=>by
  rw[List.range'_succ,w!,w!];show vz ((e! k).map g) 1 s ((s:Int)+1,(s:Int)+1,t s)++fH ((e! k).map g) 1 (s+1) ((I! (s+1) d).map λi:Nat=>((i:Int)+1,(i:Int)+1,t i))=_;rw[anj t d (s+1) (by omega)];have e:=(find_range (f:=g) (key:=λm:Ml=>m.id) b (show s<k by omega)).2;have c:vz ((e! k).map g) 1 s ((s:Int)+1,(s:Int)+1,t s)= [((s:Int)+1,(s:Int)+1,g s)]:=by
   unfold vz;show(match ((e! k).map g).find? (λm=>decide (m.id=(s:Int)+1)) with|some m=>_|none=>_)=_;rw[e];show(if((g s).mem.any λy=>decide ((1,(s:Int)+1)=y))=true then _ else _)=_;rw[a,if_pos (by simp)]
  rw[c];rfl
def aHZ{k:Nat}(t:Nat->Int):fH ((e! k).map g) 1 0 ((e! k).map λi:Nat=>((i:Int)+1,(i:Int)+1,t i))=(e! k).map λi:Nat=>((i:Int)+1,(i:Int)+1,g i):=by
 have:=anj b a (k:=k) t k 0 (by omega);rwa[<-List.range_eq_range']at this
end
def aKZ(k:Nat):(fC (jw k) 1).2.2=(e! k).map λi:Nat=>((i:Int)+1,(i:Int)+1,(i:Int)+2):=by
 show(Wn ((e! k).map mlF) 1).map thK=_;rw[abr (g:=mlF) (λ_=>rfl),List.map_map];rfl
abbrev auO:List Nat:= [83,84,79,82,69]
end Go.Im
namespace Go.Vm
def aET{a:Nat}(b:a<256)(h:Hp):jS U (Y .u8 (a:Int)) h=D (Y U (a:Int)) h:=Uy (by omega) (by omega)
end Go.Vm
namespace Go.Proofs.Im
section
variable{k:Nat}
def aQM(k:Nat)(a:k<=20):DAcc (jw k) ((e! k).map emF):=DAcc.fill a
end
end Go.Proofs.Im
namespace Go.Im
def gJ(l:List (List Nat)):Nat->List (List Nat)
 |0=> []
 |m+1=>(match l[m]? with
  |some x=>if 0<m/\l[m - 1]?=some x then gJ l m else gJ l m++ [x]
  |none=>gJ l m)
def awu(l:List (List Nat)):∀m,(gJ l m).length<=m
 |0=>k! _
 |m+1=>by
  have:=awu l m;unfold gJ;split
  ·split
   ·omega
   ·rw[b!];simp;omega
  ·omega
def afS{l:List (List Nat)}:∀{m:Nat},m<=l.length->(∀k x y,k+1<m->l[k]?=some x->l[k+1]?=some y->x≠y)->gJ l m=l.take m
 |0,_,_=>by simp[gJ]
 |m+1,d,h=>by
  have b:=afS (m:=m) (by omega) λk x y c=>h k x y (by omega);have a:l[m]?=some l[m]:=c! (by omega);unfold gJ;rw[a];simp only[];rw[if_neg,b,K!,a]; · rfl
  rintro⟨h0,e⟩;exact h (m - 1) l[m] l[m] (by omega) e (by rw[show m - 1+1=m by omega];exact a) rfl
end Go.Im
namespace Go.Proofs.Im
section
variable{h:Hp}{i:Pos}{f:Bool}{l:List (List Nat)}{P:Pos->Prop}{v:V}
def jC(x y:List Nat)(h:Hp):aH .eql .none (H x) (H y) h=D (K (decide (x=y))) h:=lW x y
def aJ1(x y:List Nat)(h:Hp):aH .neq .none (H x) (H y) h=D (K (decide (x≠y))) h:=UA x y
def aAa{α:Type}{l:List α}{a:List α}{k:Nat}{x:α}(b:a.length=k)(c:k<l.length):(a++l.drop k).set k x=(a++ [x])++l.drop (k+1):=by
 rw[h! c,List.append_assoc];rw[List.set_append,if_neg (by omega),b,Nat.sub_self];rfl
def atX(k0:Kn h i (O (N 9 f) (l.map H)))(h2:2<=l.length)(hn:l.length<=1000):
  ∃h' rest,oQ [.slice i 0 l.length (.un 1)] h=D (.slice i 0 (gJ l l.length).length (.un 1)) h'/\Kn h' i (O (N 9 f) ((gJ l l.length).map H++rest))/\Ch (λj=>j=i) h h':=by
 have Ln:∀g,aZ 2 (.slice i 0 l.length (.un 1)) g=D (Y U (l.length:Int)) g:=λg=>rfl;have L:∀{g:Hp} {m:List (List Nat)} {j:Nat} {x:(List Nat)},Kn g i (O (N 9 f) (m.map H))->m[j]?=some x->aF (X i j) g=D (H x) g:=λk e=>k.ld (by rw[o!,e];rfl);have St:∀{g:Hp} {m:List (List Nat)} {j:Nat} (x:(List Nat)),Kn g i (O (N 9 f) (m.map H))->j<m.length->aS 1 (X i j) (H x) g=D V.undef (g.put i (some (O (N 9 f) ((m.set j x).map H)))):=λ{g m j} x k e=>by
  rw[k.st ⟨rfl,rfl⟩ (by rw[g!];exact e),P!]
 have Ix:∀(g:Hp) (j:Nat),j<l.length->aX 1 (.slice i 0 l.length (.un 1)) (Y U (j:Int)) g=D (X i j) g:=λg j e=>by rw[oD e,Q!,j!]
 rw[IE]
 suffices T:aV u! [.tmp 2] (λw h'=>w=.slice i 0 (gJ l l.length).length (.un 1)/\(∃rest,Kn h' i (O (N 9 f) ((gJ l l.length).map H++rest)))/\Ch (λj=>j=i) h h') (uD (T.set (some (.slice i 0 l.length (.un 1))) (d! 0) T.nil) h) by
  obtain⟨w,h',e,rfl,⟨rest,k⟩,c⟩:=T;exact⟨h',rest,e,k,c⟩
 simp(disch:=omega)only[vvB,seval,uD,zO,DT,Sj,Ln];refine Oc.then (dX (n:=l.length - 1) (λm fr g=>∃k:Nat,1<=k/\k+m=l.length/\fr.get (d! 0)=some (.slice i 0 l.length (.un 1))/\fr.get (d! 3)=some (Y U (k:Int))/\g=h/\∀j x y,j+1<k->l[j]?=some x->l[j+1]?=some y->x≠y)
  (A:=λfr g=>fr.get (d! 0)=some (.slice i 0 l.length (.un 1))/\g=h/\gJ l l.length=l)
  (B:=λfr g=>fr.get (d! 2)=some (.slice i 0 (gJ l l.length).length (.un 1))/\(∃rest,Kn g i (O (N 9 f) ((gJ l l.length).map H++rest)))/\Ch (λj=>j=i) h g) (by rw[dR];omega) ⟨1,by omega,by omega,qK0,qK1,rfl,λj x y hj=>by omega⟩ ?_) ?_ ?_
 ·rintro m fr g ⟨k,h1,hk,f0,f3,rfl,hd⟩;by_cases hm:m=0
  ·simp(disch:=omega)only[vvB,seval,qE,DR,f0,f3,Ln];refine⟨rfl,qK2 f0,rfl,?_⟩;rw[afS (k! _) λj x y hj=>hd j x y (by omega),B!]
  obtain⟨x,hx⟩:∃x,l[k]?=some x:=⟨_,c! (by omega)⟩
  obtain⟨y,hy⟩:∃y,l[k - 1]?=some y:=⟨_,c! (by omega)⟩
  have u:((k:Nat):Int) - 1=((k - 1:Nat):Int):=by omega
  have W:=Ix g k (by omega);have Z:=Ix g (k - 1) (by omega);have L1:=L k0 hx;have S:=L k0 hy;by_cases p:x=y
  ·subst p;have hS:=amY (im:=i) (w:=1) (show k<l.length by omega) g;rw[j!]at hS;have I:∀g,aZ 2 (.slice i k (l.length - k) (.un 1)) g=D (Y U ((l.length - k:Nat):Int)) g:=λg=>rfl;have aa:∀(g:Hp) (j:Nat),j<l.length - k->aX 1 (.slice i k (l.length - k) (.un 1)) (Y U (j:Int)) g=D (X i (k+j)) g:=λg j e=>by rw[oD e,j!]
   have c1:gJ l (k+1)=l.take k:=by
    have:=afS (l:=l) (m:=k) (by omega) hd;show(match l[k]? with
     |some x=>if 0<k/\l[k - 1]?=some x then gJ l k else gJ l k++ [x]
     |none=>gJ l k)=_
    rw[hx];simp only[];rw[if_pos ⟨by omega,hy⟩,this]
   have cS:∀(q:Nat) (x y:List Nat),0<q->l[q]?=some x->l[q - 1]?=some y->gJ l (q+1)=if x=y then gJ l q else gJ l q++ [x]:=λq x y h0 e1 e2=>by
    show(match l[q]? with
     |some x=>if 0<q/\l[q - 1]?=some x then gJ l q else gJ l q++ [x]
     |none=>gJ l q)=_
    rw[e1,e2];simp only[Option.some.injEq];by_cases e:x=y
    ·rw[if_pos ⟨h0,e.symm⟩,if_pos e]
    ·rw[if_neg (λq=>e q.2.symm),if_neg e]
   simp(disch:=omega)only[vvB,seval,qE,DR,RY,J4,J3,f0,f3,Ln,W,Z,u,L1,S,jC,decide_true,hS];refine Oc.then (Q:=λo=>LS _ _ _ _ (oC (Dz 1 o) RZ)) (dX (n:=l.length - k - 1) (λm fr g'=>∃b a:Nat,1<=b/\k+b+m=l.length/\(gJ l (k+b)).length=a/\a+1<=k+b/\fr.get (d! 0)=some (.slice i 0 l.length (.un 1))/\fr.get (d! 3)=some (Y U (a:Int))/\fr.get (d! 4)=some (.slice i k (l.length - k) (.un 1))/\fr.get (d! 5)=some (Y U (b:Int))/\Kn g' i (O (N 9 f) ((gJ l (k+b)++l.drop a).map H))/\Ch (λj=>j=i) g g')
    (A:=λfr g'=>fr.get (d! 0)=some (.slice i 0 l.length (.un 1))/\fr.get (d! 3)=some (Y U ((gJ l l.length).length:Int))/\(gJ l l.length).length+1<=l.length/\Kn g' i (O (N 9 f) ((gJ l l.length++l.drop (gJ l l.length).length).map H))/\Ch (λj=>j=i) g g')
    (B:=λ_ _=>False) (by rw[dR];omega) ?_ ?_) ?_ ?_
   ·refine⟨1,k,k! _,by omega,by rw[c1,p!];omega,k! _,qK2 f0,qK2 f3,qK0,qK1,?_,Ch.refl _ _⟩;rw[c1,G!];exact k0
   ·rintro m' ab g' ⟨b,a,af,ag,J,ac,f0,f3,f4,f5,E,cg⟩;by_cases ai:m'=0
    ·simp(disch:=omega)only[vvB,seval,qC,qx,f4,f5,I];rw[show k+b=l.length by omega]at J E ac;subst J;exact⟨rfl,qK2 f0,qK2 f3,ac,E,cg⟩
    obtain⟨x',s⟩:∃x,l[k+b]?=some x:=⟨_,c! (by omega)⟩
    obtain⟨y',t⟩:∃y,l[k+b - 1]?=some y:=⟨_,c! (by omega)⟩
    have gx:∀q z,a<=q->l[q]?=some z->(gJ l (k+b)++l.drop a)[q]?=some z:=λq z hq e=>by
     rw[C! (by omega),J,i!,show a+(q - a)=q by omega];exact e
    have W:=aa g' b (by omega);have Z:=aa g' (b - 1) (by omega);have ad:(b:Int) - 1=((b - 1:Nat):Int):=by omega
    have L1:=L E (gx _ _ (by omega) s);have S:=L E (gx _ _ (by omega) t);rw[show k+b - 1=k+(b - 1) by omega]at S;have r:=cS (k+b) x' y' (by omega) s t;by_cases p:x'=y'
    ·rw[if_pos p]at r;simp(disch:=omega)only[vvB,seval,qC,qx,wF,wG,f4,f5,I,W,Z,ad,L1,S,aJ1,p,ne_eq,not_true_eq_false,decide_false];exact⟨m' - 1,by omega,b+1,a,by omega,by omega,by rw[<-x!,r];exact J,by omega,qK2 f0,qK2 f3,qK2 f4,qK1,by rw[<-x!,r];exact E,cg⟩
    ·rw[if_neg p]at r;have Ia:=Ix g' a (by omega);have S1:=St (j:=a) x' E (by rw[b!,J,q!];omega);rw[aAa J (by omega)]at S1;simp(disch:=omega)only[vvB,seval,qC,qx,wF,Ie,RZ,wG,f0,f3,f4,f5,I,W,Z,Ia,ad,L1,S,aJ1,p,ne_eq,not_false_eq_true,decide_true,S1];refine⟨m' - 1,by omega,b+1,a+1,by omega,by omega,by rw[<-x!,r,b!,J];rfl,by omega,qK2 f0,qK1,qK2 f4,qK1,by rw[<-x!,r];exact E.put _,cg.trans (show Ch (λj=>j=i) g' _ from Ch.put _ _ rfl) λj _ q=>q⟩
   ·rintro ab g' ⟨f0,f3,ah,E,cg⟩;have e0:((gJ l l.length++l.drop (gJ l l.length).length).map λx=> [H x]).flatten=(gJ l l.length++l.drop (gJ l l.length).length).map H:=qo _;have G:(gJ l l.length++l.drop (gJ l l.length).length).length=l.length:=by rw[b!,q!];omega
    have kc:Kn g' i (O (N 9 f) (((gJ l l.length++l.drop (gJ l l.length).length).map λx=> [H x]).flatten++ [])):=by rw[e0,t!];exact E
    have C:=afT (zs:= [H []]) (w:=1) (m:=(gJ l l.length).length) kc (λd hd=>by obtain⟨x,_,rfl⟩:=l!.1 hd;rfl) (by rw[g!,G];omega) rfl;rw[g!,G,j!,<-O!,M! rfl]at C;have S2:=amY (im:=i) (w:=1) (show(gJ l l.length).length<l.length by omega) g';rw[j!]at S2;obtain⟨h3,M⟩:∃h3,h3=g'.put i (some (O (N 9 f) (((gJ l l.length).map λx=> [H x]).flatten++(times (l.length - (gJ l l.length).length) [H []]++ [])))):=⟨_,rfl⟩
    rw[<-M]at C;have k3:Kn h3 i (O (N 9 f) ((gJ l l.length).map H++(times (l.length - (gJ l l.length).length) [H []]++ []))):=by
     rw[M,qo];exact E.put _
    have S3:=amX (im:=i) (w:=1) (show(gJ l l.length).length<=l.length by omega) h3;simp(disch:=omega)only[vvB,seval,H8,H7,f0,f3,S2,C,S3];exact⟨qK0,⟨_,k3⟩,cg.trans (show Ch (λj=>j=i) g' h3 by rw[M];exact Ch.put _ _ rfl) λj _ q=>q⟩
   ·intro ab g' q;exact q.elim
  ·simp(disch:=omega)only[vvB,seval,qE,DR,RY,RZ,f0,f3,Ln,W,Z,u,L1,S,jC,p,decide_false];refine⟨m - 1,by omega,k+1,by omega,by omega,qK2 f0,qK1,rfl,λj x' y' hj s t=>?_⟩;by_cases ae:j+1<k
   ·exact hd j x' y' ae s t
   ·obtain rfl:j=k - 1:=by omega
    rw[hy]at s;cases s;rw[show k - 1+1=k by omega,hx]at t;cases t;exact λe=>p e.symm
 ·rintro fr g ⟨f0,rfl,e⟩;simp(disch:=omega)only[vvB,seval,Sm,f0];exact aV.ret (qT0) ⟨by rw[e],⟨[],by rw[e,t!];exact k0⟩,Ch.refl _ _⟩
 ·rintro fr g ⟨f2,k,c⟩;exact aV.ret (qT1 f2) ⟨rfl,k,c⟩
def xH(l:List (List Nat)):List (List Nat):=gJ (gu jg l.length l) l.length
def alv(l:List (List Nat)):(xH l).length<=l.length:=awu _ _
def aIc(h:l.length<=1):xH l=l:=by
 unfold xH;rw[BO _ h]
 match l,h with
 | [],_=>rfl
 | [x],_=>rfl
def apP(r:Rws P (flat dN) 1 h v l)(B:∀k∈l,EC k=true)(hn:l.length<=12):
  ∃w h',IJ [v] h=D (.tuple (.cons w (.cons (iV 0) .nil))) h'/\Rws (λj=>h.next.nat<=j.nat) (flat dN) 1 h' w (xH l)/\Nw h h':=by
 by_cases d:l.length<=1
 ·rw[aIc d];exact ato r B d
 obtain⟨h1,e1,s⟩:=IK r (aJ _) (λ_=>false) (by omega) (f:=.func (.func 79) .nil .nil) (λa x g M cg e=>by
  cases(show [x]= [H a] from e);obtain⟨J,e2,t⟩:=apO (h:=g) (B a M);refine⟨J,?_,t⟩;rw[aiY,aeS];simp only[vvB,seval,ab9,ajr,VP,e2];simp only[bV,bQ,vvB,seval,bT])
 rw[show(l.any λ_=>false)=false by simp]at e1;obtain⟨w,h2,e2,r2,t,m⟩:=CB (r.nw (aJ _) s) (by omega);have S:=s.next;rcases m with rfl|m
 ·exact absurd (by simp) d
 obtain⟨L,y,W,G⟩:=acR m (by omega);have p:Nw h L:=(s.trans t).then G λj hj e=>by have:=(m.eY e).1;omega
 have b:=xJ jg l.length l;obtain⟨i,f,rfl,hb,C⟩:=W.open (λe=>by rw[e]at b;simp at b;omega);rw[show((gu jg l.length l).map dN).flatten=(gu jg l.length l).map H from qo _]at C;obtain⟨u,rest,z,E,I⟩:=atX C (by omega) (by omega);rw[b]at z E;have Z:Rws (λj=>h.next.nat<=j.nat) (flat dN) 1 u (.slice i 0 (xH l).length (.un 1)) (xH l):=by
  have o:yY 9 1 (λ_=>False) (flat dN) u (.slice i 0 (xH l).length (.un 1)) (xH l):=by
   refine⟨(xH l).map dN,All2.ana _,λc Q=>?_,.inr ⟨i,f,rest,rfl,?_⟩⟩
   ·obtain⟨x,_,rfl⟩:=l!.1 Q;rfl
   ·rw[show((xH l).map dN).flatten=(xH l).map H from qo _];exact E
  exact(o.rws (aJ _)).mono (aJ _) λj _ q=>by
   rcases q with q|q
   ·exact q.elim
   ·cases q;omega
 have hk:(gJ (gu jg l.length l) l.length).length<=l.length:=alv l;have n:∀g,aZ 2 (.slice i 0 (gJ (gu jg l.length l) l.length).length (.un 1)) g=D (Y U ((gJ (gu jg l.length l) l.length).length:Int)) g:=λg=>rfl;rw[ahP];rw[b]at e2 y;simp(disch:=omega)only[vvB,seval,ahy,YB,YA,Yz,Yy,Yx,Yw,Yv,e1,e2,y,z,n];exact⟨_,u,by simp only[bV,bQ,vvB,seval,bT]<;>rfl,Z,p.then I λj hj e=>by rw[e]at hj;omega⟩
end
section
variable{h h' g:Hp}{F I P:Pos->Prop}{ps pl ib:Pos}{A:Acc}{cb:Cap}{fb:Bool}{v vm vl:V}
def axa(a:dL h F ps A pl ib cb fb vm vl I)(u:A.Small){k:Nat}{m:Ml}(p:A.mails[k]?=some m)(y:A.mails.findIdx? (λx=>decide (x.id=m.id))=some k){l0:List (List Nat)}(r:Rws P (flat dN) 1 h v l0)(C:∀k∈l0,EC k=true)(hn:l0.length<=12)(b:xH l0=m.keys):
  ∃h',BF [X ps 0,iV m.id,v] h=D (iV 0) h'/\Nw h h':=by
 obtain⟨J,e1,c⟩:=ast a u m.id;rw[y]at e1;simp only[fE]at e1;obtain⟨w,i,e2,r2,j⟩:=apP (r.nw (aJ _) c) C hn;have hn:m.keys.length<=12:=by have:=alv l0;rw[b]at this;omega
 rw[b]at r2;have a2:=(a.nw c).nw j;obtain⟨im,f,rest,d,vk,vs,rfl,E,x,s,n,G,M⟩:=a2.aH2 p;have L:=a2.st.ld (q:=11) rfl;have z:=(a!.1 p).1;have o:=ji s;have B:=(a!.1 n).1;have t:aF (X im (k*8+4)) i=D vk i:=E.ld (by
  rw[n! (by omega)];have:=Gq s n;have e:(List.take 8 (List.drop (k*8) d.flatten))[4]?=some vk:=by rw[this];rfl
  rw[y!,if_pos (by omega),i!]at e;exact e)
 have l:=aay r2 G (by omega);rw[decide_eq_true rfl]at l;rw[ahJ];simp(disch:=omega)only[vvB,seval,Xe,Ol,Oj,Oi,Oh,Og,Oe,Oa,Ol,fG,e1,e2,L,sN z,t,l];exact⟨i,by simp only[bV,bQ,vvB,seval,bT]<;>rfl,c.trans j⟩
def aD5(a:dL h F ps A pl ib cb fb vm vl I)(Z:A.Small)(hL:A.Logged){k:Nat}{m:Ml}(hm:A.mails[k]?=some m)(hf:A.mails.findIdx? (λx=>decide (x.id=m.id))=some k)(ac:m.In A){l l0:List (List Nat)}(r:Rws P (flat dN) 1 h v l0)(hr:∀k∈l0,EC k=true)(hn:l0.length<=12)(aE:xH l0=l)
  (bj:l≠m.keys) (bh:A.ents.length<=8000) (bB:A.clock<900000):
  ∃h' F' ag I',BF [X ps 0,iV m.id,v] h=D (iV 0) h'/\dL h' F' ps (aa4 A k m l) pl ib cb fb vm ag I'/\Ch F h h'/\∀j,F' j->F j\/h.next.nat<=j.nat:=by
 have aL:=Z.each m (J! hm);obtain⟨h1,e1,c1⟩:=ast a Z m.id;rw[hf]at e1;simp only[fE]at e1;obtain⟨w,h2,e2,r2,c2⟩:=apP (r.nw (aJ _) c1) hr hn;have hn:l.length<=12:=by have:=alv l0;rw[aE]at this;omega
 rw[aE]at r2;have a2:=(a.nw c1).nw c2;have be:=c1.trans c2;obtain⟨im,f,rest,bf,vk,vs,ae,km,x,hw,hc,rk,rs⟩:=a2.aH2 hm;have L2:=a2.st.ld (q:=11) (x:=vm) rfl;have hk:=(a!.1 hm).1;have bz:=ji hw;have bE:=(a!.1 hc).1;have Ix:=λg=>sN (sz:=8) (i:=im) (c:=.un 8) hk g;rw[<-ae]at Ix;have cell:∀{q:Nat} {y:V},q<8->(dS m vk vs)[q]?=some y->(bf.flatten++rest)[k*8+q]?=some y:=λ{q y} hq hy=>by
  rw[n! (by omega)];have e:=Gq hw hc;rw[<-e,y!,if_pos (by omega),i!]at hy;exact hy
 have au:aF (X im (k*8+4)) h2=D vk h2:=km.ld (cell (by omega) rfl);have e3:=aay r2 rk (by omega);rw[decide_eq_false bj]at e3;have e4:=asu a2 Z;have e5:=asr a2 Z;obtain⟨W,an⟩:∃W,W=h2.put ps (some (O (N tSt true) (stC {A with clock:=A.clock+1} ib cb vm pl))):=⟨_,rfl⟩
 rw[<-an]at e5;have a3:dL W F ps {A with clock:=A.clock+1} pl ib cb fb vm vl I:=by rw[an];exact a2.aub rfl rfl rfl rfl
 have c3:Ch (λj=>j=ps) h2 W:=by rw[an];exact Ch.put _ _ rfl
 have bx:=a.foot.1;have n1:=c1.next;have n2:=c2.next;have n3:=c3.next;have r3:Rws (λj=>bI w=some j) (flat dN) 1 W w l:=r2.own.ch (aJ _) c3 λj _ q=>⟨q,λe=>by have:=(r2.eY q).1;rw[e]at this;have:=a.st.2;omega⟩
 obtain⟨bl,f3,s,n,t,u,ai,a0,x3,L,J,af,bb⟩:=a3.aH2 (m:=m) hm;obtain rfl:im=bl:=by rw[ae]at ai;injection ai
 have L3:=a3.st.ld (q:=11) (x:=vm) rfl;have Q:∀{q:Nat} {y:V},q<8->(dS m t u)[q]?=some y->(n.flatten++s)[k*8+q]?=some y:=λ{q y} hq hy=>by
  have:=ji L;have:=(a!.1 J).1;rw[n! (by omega)];have e:=Gq L J;rw[<-e,y!,if_pos (by omega),i!]at hy;exact hy
 obtain⟨h4,e6,c4⟩:=Ew r3 [36,115,101,101,110] (by omega);have a1:=a0.nw c4;have av:aF (X im (k*8+4)) W=D t W:=a0.ld (Q (by omega) rfl);have aw:aF (X im (k*8+4)) h4=D t h4:=a1.ld (Q (by omega) rfl);obtain⟨h5,e7,c5⟩:=Ew (af.nw (aJ _) c4) [36,115,101,101,110] (by omega);have a5:=(a3.nw c4).nw c5;have aq:=a1.nw c5;have G:=c4.trans c5;have bM:=G.next;obtain⟨wi,M,e8,r8,c6⟩:∃wi M,(if NR l=NR m.keys then wi=.aP/\M=h5 else EY [.agg (V.ofList (dS m t u))] h5=D wi M)/\Rws (λj=>h5.next.nat<=j.nat) (flat iG) 1 M wi (iO m l)/\Nw h5 M:=by
  unfold iO;split
  ·exact⟨.aP,h5,⟨rfl,rfl⟩,Rws.aP _ _ _ _,Nw.refl _⟩
  ·obtain⟨wi,M,e,o,c⟩:=ay9 (h:=h5) (show jZ I h5 m (dS m t u) from⟨t,u,rfl,af.nw (aJ _) G,bb.nw (aJ _) G⟩) aL.2;exact⟨wi,M,e,o.rws (aJ _),c⟩
 have a6:=a5.nw c6;have a4:=aq.nw c6;have n6:=c6.next;have x6:All2 (jZ I M) A.mails n:=x3.mono λ_ _ e=>dI e (G.trans c6) λj _ q=>⟨q,λq=>q⟩
 obtain⟨h7,aa⟩:∃h7,h7=M.put im (some (O (N 40 f3) ((n.set k ((dS m t u).set 4 w)).flatten++s))):=⟨_,rfl⟩
 have S7:aS 1 (X im (k*8+4)) w M=D V.undef h7:=by
  rw[aa,<-aEX L J (by omega)];exact a4.st r3.cell (by rw[b!,ji L];have:=(a!.1 J).1;omega)
 have bn:Kn h7 im (O (N 40 f3) ((n.set k ((dS m t u).set 4 w)).flatten++s)):=by rw[aa];exact a4.put _
 have aR:∀c∈n.set k ((dS m t u).set 4 w),c.length=8:=λd hd=>by
  rcases D! hd with q|q
  ·exact L d q
  ·rw[q];rfl
 have aD:(n.set k ((dS m t u).set 4 w))[k]?=some ((dS m t u).set 4 w):=by rw[List.getElem?_set_self (a!.1 J).1]
 obtain⟨m',S⟩:∃m':Ml,m'={m with keys:=l,mod:=A.clock+1}:=⟨_,rfl⟩
 obtain⟨C,ao⟩:∃C,C=M.put im (some (O (N 40 f3) ((n.set k (dS m' w u)).flatten++s))):=⟨_,rfl⟩
 have S8:aS 1 (X im (k*8+6)) (iV (A.clock+1)) h7=D V.undef C:=by
  have e:=bn.st (q:=k*8+6) (y:=iV (A.clock+1)) ⟨rfl,rfl⟩ (by rw[b!,ji aR];have:=(a!.1 aD).1;omega);rw[aEX aR aD (by omega),List.set_set,aa,ap0]at e;rw[ao,S,aa];exact e
 have bk:∀j,bI w=some j->¬F j:=λj q fj=>by have:=(r2.eY q).1;have:=a.lt j fj;omega
 have a8:=a6.aSW (m:=m) (m':=m') hm ae x6 L J (by rw[S];exact r3.nw (aJ _) (G.trans c6)) (by rw[S];exact bb.nw (aJ _) (G.trans c6)) bk (rest:=s) (f:=f3);rw[<-ao]at a8;have c8:Ch (λj=>j=im) M C:=by rw[ao];exact Ch.put _ _ rfl
 have n8:=c8.next;have bv:=r8.ch (P':=λj=>h5.next.nat<=j.nat) (aJ _) c8 λj _ q=>⟨q,λe=>by have:=aq.2;rw[<-e]at this;omega⟩
 have ab:=a8.nw (Nw.bump 1 C);have bg:({A with clock:=A.clock+1,mails:=A.mails.set k m'}:Acc).Small:=⟨by have:=Z.clock;exact⟨by show 0<=A.clock+1;omega,by show A.clock+1<1000000;omega⟩,Z.boxes,by show(A.mails.set k m').length<=1000;rw[List.length_set];exact Z.mails,Z.ents,λy hy=>by
  rcases D! hy with q|q
  ·exact Z.each y q
  ·rw[q,S];exact⟨by show l.length<=1000;omega,aL.2⟩⟩
 have z:gu ltI (iO m l).length (iO m l)=iO m l/\(∀(k:Nat) x y,(iO m l)[k]?=some x->(iO m l)[k+1]?=some y->x≠y)/\(∀id∈iO m l,∃i,A.boxes.findIdx? (λb=>decide (b.id=id))=some i)/\(iO m l).length<=12:=by
  unfold iO;split
  ·exact⟨rfl,λk x y e=>by simp at e,λid e=>by simp at e,by simp⟩
  ·exact⟨ac.sorted,ac.nodup,ac.there,by rw[g!];exact ac.few⟩
 obtain⟨w9,h9,e9,a9,r9,f9,c9⟩:=ai1 ab bg (bv.nw (aJ _) (Nw.bump 1 C)) z.2.2.2 (A.clock+1) z.1 z.2.1 z.2.2.1;have nb:(aK 1 C).next.nat=C.next.nat+1:=sZ _ _;have n9:=c9.next;obtain⟨p,E⟩:∃p,p=h9.put C.next (some (O (N 85 true) (iL {mod:=A.clock+1,kind:=2,id:=m.id,how:=2}))):=⟨_,rfl⟩
 have ak:Ch (λj=>j=C.next) h9 p:=by rw[E];exact Ch.put _ _ rfl
 have ar:p.next=h9.next:=by rw[E];rfl
 have bm:Kn p C.next (O (N 85 true) (iL {mod:=A.clock+1,kind:=2,id:=m.id,how:=2})):=by rw[E];exact⟨kJ _ _ _,by rw[jQ];omega⟩
 have bc:=a9.ch ak λj f e=>by have:=a8.lt j f;rw[e]at this;omega
 have bs:=r9.ch (P':=λj=>(aK 1 C).next.nat<=j.nat) (aJ _) ak λj _ q=>⟨q,λe=>by rw[e]at q;omega⟩
 have bw:Rws (λj=>j=C.next) (flat iL) 4 p (.slice C.next 0 1 (.kn 1)) [({mod:=A.clock+1,kind:=2,id:=m.id,how:=2}:En)]:=Kn.rws (l:= [({mod:=A.clock+1,kind:=2,id:=m.id,how:=2}:En)]) (by simpa using bm) (λ_=>rfl) (λ_ _ _ _ e=>by cases e;exact k! _);have bi:aiC w9 ((iO m l).map (lq (A.clock+1))).length:=by rw[g!];exact f9
 obtain⟨bO,az,ax,bo,al⟩:=aqG (el:=85) (bt:=32) bs bi bw (by simp) (by simp;have:=z.2.2.2;omega);have aj:=bc.nw al;have bL:=al.next;have Lp:∀{g:Hp} {F:Pos->Prop} {B:Acc} {vl:V} {I:Pos->Prop},dL g F ps B pl ib cb fb vm vl I->aF (X ps 12) g=D (X pl 0) g:=λa=>a.st.ld (q:=12) rfl;have a7:p.next.nat=h9.next.nat:=by rw[ar]
 have bu:=bo.rows (P':=λj=>p.next.nat<=j.nat) (aJ _) (λ_ _ q=>q.elim) λ_ q _=>q;obtain⟨bN,am,ag,ay,bd,ah,aM⟩:=aj.add bu (λj _ pj fj=>by have:=a8.lt j fj;rw[ar]at pj;omega) (c:=A.clock+1) (λe he=>by
  rcases List.mem_append.1 he with q|q
  ·obtain⟨id,_,rfl⟩:=l!.1 q;rfl
  ·simp at q;rw[q]) (λe he=>by have:=hL.mods e he;omega) (by rw[b!,g!];have:=z.2.2.2;show A.ents.length+_<=10000;simp;omega) (by simp)
 have ap:(U! l λa=>decide (([36,115,101,101,110]:List Nat)=a))=NR l:=rfl;have ad:(U! m.keys λa=>decide (([36,115,101,101,110]:List Nat)=a))=NR m.keys:=rfl;rw[ap]at e6;rw[ad]at e7;have N5:=aQz aq L J;have fin:BF [X ps 0,iV m.id,v] h=D (iV 0) am:=by
  rw[ahJ];by_cases hs:NR l=NR m.keys
  ·rw[if_pos hs]at e8;obtain⟨rfl,rfl⟩:=e8;simp(disch:=omega)only[vvB,seval,Xe,Ol,Oj,Oi,Oh,Og,Oe,Oa,U6,U5,U4,U3,U2,UZ,UY,Ol,fG,e1,e2,L2,Ix,au,e3,e4,e5,L3,e6,aw,qw af.noF av,e7,acM,hs,S7,S8,e9,aC7,aKg,<-E,ax,Lp aj,afU (v:=X pl 0) rfl (Lp a9) (Lp ab),ay];simp only[bV,bQ,vvB,seval,bT]<;>rfl
  ·rw[if_neg hs]at e8;simp(disch:=omega)only[vvB,seval,Xe,Ol,Oj,Oi,Oh,Og,Oe,Oa,U6,U5,U4,U3,U2,agl,UZ,UY,Ol,fG,e1,e2,L2,Ix,au,e3,e4,e5,L3,e6,aw,qw af.noF av,e7,acM,hs,N5,e8,S7,S8,e9,aC7,aKg,<-E,ax,Lp aj,afU (v:=X pl 0) rfl (Lp a9) (Lp ab),ay];simp only[bV,bQ,vvB,seval,bT]<;>rfl
 refine⟨am,λj=>(F j\/bI w=some j)\/bI ag=some j,ag,λj=>I j\/bI w=some j,fin,?_,?_,?_⟩
 ·have:aa4 A k m l={({A with clock:=A.clock+1,mails:=A.mails.set k m',boxes:=jX (A.clock+1) (iO m l) A.boxes}:Acc) with ents:=A.ents++((iO m l).map (lq (A.clock+1))++ [({mod:=A.clock+1,kind:=2,id:=m.id,how:=2}:En)])}:=by rw[S];rfl
  rw[this];exact bd
 ·have bA:=ah.next;have a7:p.next.nat=h9.next.nat:=by rw[ar]
  have hF:∀j:Pos,j.nat<h.next.nat->(F j\/bI w=some j)->F j:=λj hj q=>q.elim id λe=>by have:=(r2.eY e).1;omega
  refine⟨by omega,λj hj hn=>?_⟩;have br:h2.get j=h.get j:=be.get j hj (λq=>q)
  have q3:W.get j=h2.get j:=c3.get j (by omega) λe=>hn (by rw[e];exact a.foot.1);have q6:M.get j=W.get j:=(G.trans c6).get j (by omega) λq=>q;have q8:C.get j=M.get j:=c8.get j (by omega) λe=>hn (by rw[e];exact a.foot.2.2.2.1 im (by rw[ae];rfl));have qb:(aK 1 C).get j=C.get j:=rfl;have q9:h9.get j=(aK 1 C).get j:=c9.get j (by omega) λe=>hn (by rw[e];exact a.foot.2.2.1);have bp:p.get j=h9.get j:=ak.get j (by omega) λe=>by rw[e]at hj;omega
  have bq:az.get j=p.get j:=al.get j (by omega) λq=>q;have ba:am.get j=az.get j:=ah.get j (by omega) λq=>hn (hF j hj q);rw[ba,bq,bp,q9,qb,q8,q6,q3,br]
 ·intro j q;rcases q with(q|q)|q
  ·exact .inl q
  ·exact .inr (by have:=(r2.eY q).1;omega)
  ·rcases aM j q with(q|q)|q
   ·exact .inl q
   ·exact .inr (by have:=(r2.eY q).1;omega)
   ·exact .inr (by omega)
end
section
variable{h:Hp}{i:Pos}{s:Bool}{l a b:List (List Nat)}{P Q:Pos->Prop}{f u vb:V}
def ayB(r:Rws P (flat dN) 1 h (.slice i 0 l.length (.un 1)) l)(k0:Kn h i (O (N 9 s) (l.map H)))(hn:l.length<=1000)(p:List Nat->Bool)
  (ac:∀x g,x∈l->Ch (λj=>j=i) h g->∃g',dD kz f [H x] g=D (K (p x)) g'/\Nw g g')
  (ad:∀x g,x∈l->Ch (λj=>j=i) h g->∃g',dD wH f [H x] g=D (K (p x)) g'/\Nw g g'):
  ∃h' rest,lI [.slice i 0 l.length (.un 1),f] h=D (.slice i 0 (l.filter λx=>!p x).length (.un 1)) h'/\Kn h' i (O (N 9 s) ((l.filter λx=>!p x).map H++rest))/\Ch (λj=>j=i) h h':=by
 obtain⟨h1,e1,c1⟩:=tu r (aJ _) p (by omega) (f:=f) (λa x g ha G e=>by
  cases(show [x]= [H a] from e);exact ac a g ha G.ch)
 have Ln:∀g,aZ 2 (.slice i 0 l.length (.un 1)) g=D (Y U (l.length:Int)) g:=λg=>rfl;cases y:l.findIdx? p with
 |none=>
  rw[y]at e1;simp only[fE]at e1;have z:l.filter (λa=>!p a)=l:=v!.2 λa ha=>by
   have:=E!.1 y a ha;simp[this]
  refine⟨h1,[],?_,by rw[z,t!];exact k0.nw c1,c1.ch⟩;rw[mW,z];simp(disch:=omega)only[vvB,seval,jO,mJ,kG,mF,qW,e1];simp only[bV,bQ,vvB,seval,bT]
 |some t=>
  rw[y]at e1;simp only[fE]at e1;obtain⟨ht,ag,af⟩:=z!.1 y;have ab:(l.take t).filter (λa=>!p a)=l.take t:=v!.2 λa ha=>by
   obtain⟨j,hj,e⟩:=List.mem_iff_getElem.1 ha;rw[p!]at hj;have:=af j (by omega);rw[List.getElem_take]at e;rw[e]at this;simpa using this
  have ai:l[t]?=some l[t]:=c! ht;have L:∀{g:Hp} {m:List (List Nat)} {j:Nat} {x:(List Nat)},Kn g i (O (N 9 s) (m.map H))->m[j]?=some x->aF (X i j) g=D (H x) g:=λk e=>k.ld (by rw[o!,e];rfl);have St:∀{g:Hp} {m:List (List Nat)} {j:Nat} (x:(List Nat)),Kn g i (O (N 9 s) (m.map H))->j<m.length->aS 1 (X i j) (H x) g=D V.undef (g.put i (some (O (N 9 s) ((m.set j x).map H)))):=λ{g m j} x k e=>by
   rw[k.st ⟨rfl,rfl⟩ (by rw[g!];exact e),P!]
  have Ix:∀(g:Hp) (j:Nat),j<l.length->aX 1 (.slice i 0 l.length (.un 1)) (Y U (j:Int)) g=D (X i j) g:=λg j e=>by rw[oD e,Q!,j!]
  rw[mW]
  suffices T:aV u! [.tmp 4] (λw h'=>w=.slice i 0 (l.filter λx=>!p x).length (.un 1)/\(∃rest,Kn h' i (O (N 9 s) ((l.filter λx=>!p x).map H++rest)))/\Ch (λj=>j=i) h h') (jO (T.set (some f) (d! 1) (T.set (some (.slice i 0 l.length (.un 1))) (d! 0) T.nil)) h) by
   obtain⟨w,h',e,rfl,⟨rest,k⟩,c⟩:=T;exact⟨h',rest,e,k,c⟩
  simp(disch:=omega)only[vvB,seval,jO,mJ,kG,mF,A7,e1];refine Oc.then (dX (n:=l.length - (t+1)) (λm fr g=>∃j q:Nat,j+m=l.length/\((l.take j).filter λx=>!p x).length=q/\q<j/\fr.get (d! 0)=some (.slice i 0 l.length (.un 1))/\fr.get (d! 1)=some f/\fr.get (d! 5)=some (Y U (q:Int))/\fr.get (d! 6)=some (Y U (j:Int))/\Kn g i (O (N 9 s) (((l.take j).filter (λx=>!p x)++l.drop q).map H))/\Ch (λj=>j=i) h g)
   (A:=λfr g=>∃q:Nat,(l.filter λx=>!p x).length=q/\q<l.length/\fr.get (d! 0)=some (.slice i 0 l.length (.un 1))/\fr.get (d! 5)=some (Y U (q:Int))/\Kn g i (O (N 9 s) ((l.filter (λx=>!p x)++l.drop q).map H))/\Ch (λj=>j=i) h g)
   (B:=λ_ _=>False) (by rw[dR];omega) ?_ ?_) ?_ ?_
  ·have e0:(l.take (t+1)).filter (λa=>!p a)=l.take t:=by
    rw[EF ai,ab];simp[ag]
   refine⟨t+1,t,by omega,by rw[e0,p!];omega,by omega,qK0,qK0,qK0,qK1,?_,c1.ch⟩;rw[e0,G!];exact k0.nw c1
  ·rintro m fr g ⟨j,q,hj,v,ah,f0,f1,S,f6,J,G⟩;by_cases hm:m=0
   ·have ae:j=l.length:=by omega
    subst ae;rw[B!]at v J;simp(disch:=omega)only[vvB,seval,nS,mD,f0,f6,Ln];exact⟨rfl,q,v,ah,qK2 f0,qK2 S,J,G⟩
   obtain⟨x,hx⟩:∃x,l[j]?=some x:=⟨_,c! (by omega)⟩
   have gx:((l.take j).filter (λx=>!p x)++l.drop q)[j]?=some x:=by
    rw[C! (by omega),v,i!,show q+(j - q)=j by omega];exact hx
   have I1:=Ix g j (by omega);have L1:=L J gx;obtain⟨g',e2,c2⟩:=ad x g (J! hx) G;have M:=J.nw c2;have W:=G.nw c2;have o:=EF (p:=λa=>!p a) hx;cases hp:p x with
   |true=>
    rw[hp]at e2;simp[hp]at o;simp(disch:=omega)only[vvB,seval,nS,mD,rX,rW,ajo,f0,f1,S,f6,Ln,I1,L1,e2];exact⟨m - 1,by omega,j+1,q,by omega,by rw[o];exact v,by omega,qK2 f0,qK2 f1,qK2 S,qK1,by rw[o];exact M,W⟩
   |false=>
    rw[hp]at e2;simp[hp]at o;have Iq:=Ix g' q (by omega);have S1:=St (j:=q) x M (by rw[b!,v,q!];omega);rw[aAa v (by omega)]at S1;simp(disch:=omega)only[vvB,seval,nS,mD,rX,rW,CY,wG,ajo,f0,f1,S,f6,Ln,I1,L1,e2,Iq,S1];exact⟨m - 1,by omega,j+1,q+1,by omega,by rw[o,b!,v];rfl,by omega,qK2 f0,qK2 f1,qK1,qK1,by rw[o];exact M.put _,W.trans (show Ch (λj=>j=i) g' _ from Ch.put _ _ rfl) λ_ _ e=>e⟩
  ·rintro fr g ⟨q,v,aa,f0,S,J,G⟩;have E:(l.filter (λx=>!p x)++l.drop q).length=l.length:=by rw[b!,q!];omega
   have kc:Kn g i (O (N 9 s) (((l.filter (λx=>!p x)++l.drop q).map λx=> [H x]).flatten++ [])):=by rw[qo,t!];exact J
   have C:=afT (zs:= [H []]) (w:=1) (m:=q) kc (λd hd=>by obtain⟨x,_,rfl⟩:=l!.1 hd;rfl) (by rw[g!,E];omega) rfl;rw[g!,E,j!,<-O!,M! v]at C;have S2:=amY (im:=i) (w:=1) aa g;rw[j!]at S2;obtain⟨Z,I⟩:∃Z,Z=g.put i (some (O (N 9 s) (((l.filter λx=>!p x).map λx=> [H x]).flatten++(times (l.length - q) [H []]++ [])))):=⟨_,rfl⟩
   rw[<-I]at C;have k3:Kn Z i (O (N 9 s) ((l.filter λx=>!p x).map H++(times (l.length - q) [H []]++ []))):=by
    rw[I,qo];exact J.put _
   have S3:=amX (im:=i) (w:=1) (Nat.le_of_lt aa) Z;subst v;simp(disch:=omega)only[vvB,seval,AX,AV,f0,S,S2,C,S3];exact aV.ret (qT0) ⟨rfl,⟨_,k3⟩,G.trans (show Ch (λj=>j=i) g Z by rw[I];exact Ch.put _ _ rfl) λ_ _ e=>e⟩
  ·intro fr g q;exact q.elim
def aFs(p:Pos)(x:V)(g:Hp):dD kz (.func (.func 256) .nil (.cons (X p 0) .nil)) [x] g=uK [x,X p 0] g:=(rfl)
def aFr(p:Pos)(x:V)(g:Hp):dD wH (.func (.func 256) .nil (.cons (X p 0) .nil)) [x] g=uK [x,X p 0] g:=(rfl)
def aD7{d:Pos}{wr:Wr}{x:List Nat}(k:Kn h d (O wr [vb]))(j:Rws Q (flat dN) 1 h vb b)(hb:b.length<=100):∃h',uK [H x,X d 0] h=D (K ((b.any λy=>decide (x=y)))) h'/\Nw h h':=by
 have g:=k.ld (q:=0) (x:=vb) rfl;obtain⟨h',e,c⟩:=Ew j x (by omega);rw[atQ];simp(disch:=omega)only[vvB,seval,apf,ZG,agy,g,e];exact⟨h',by simp only[bV,bQ,vvB,seval,bT],c⟩
def axd(Ra:Rws P (flat dN) 1 h u a)(C:Rws Q (flat dN) 1 h vb b)(B:a.length<=100)(hb:b.length<=100):
  ∃r h',IG [Y .u8 45,u,vb] h=D r h'/\Rws (λj=>h.next.nat<=j.nat) (flat dN) 1 h' r (a.filter λx=>!(b.any λy=>decide (x=y)))/\Nw h h':=by
 obtain⟨I,E,d,M⟩:=mkW h (O (N 26 true) [vb]);have W:eX 26 vb h=D (X h.next 0) I:=by rw[E];exact avw C.cell h
 obtain⟨w,J,e2,r2,k,G⟩:=CB (Ra.nw (aJ _) d) (by omega);have k2:=M.nw k;have aa:=(C.nw (aJ _) d).nw (aJ _) k;have n1:=d.next;rw[ahO]
 suffices T:∃r h',lI [w,.func (.func 256) .nil (.cons (X h.next 0) .nil)] J=D r h'/\Rws (λj=>h.next.nat<=j.nat) (flat dN) 1 h' r (a.filter λx=>!(b.any λy=>decide (x=y)))/\Nw h h' by
  obtain⟨r,h',e,R,c⟩:=T;refine⟨r,h',?_,R,c⟩;have Z:∀g,eP (.func 256) [] [X h.next 0] g=D (.func (.func 256) .nil (.cons (X h.next 0) .nil)) g:=λg=>rfl
  simp(disch:=omega)only[vvB,seval,ahu,Yu,Yt,X9,akb,aj9,W,e2,Z,e,decide_true,decide_false,Int.reduceEq];simp only[bV,bQ,vvB,seval,bT]
 have n2:=k.next;rcases G with rfl|G
 ·obtain⟨t,p,m⟩:=tu r2 (aJ _) (λx=>(b.any λy=>decide (x=y))) (by simp) (f:=.func (.func 256) .nil (.cons (X h.next 0) .nil)) (λa x g B n e=>absurd B (by simp));simp only[L!,fE]at p;refine⟨w,t,?_,(r2.nw (aJ _) m).mono (aJ _) λj _ q=>by omega,(d.trans k).trans m⟩;rw[mW];simp(disch:=omega)only[vvB,seval,jO,mJ,kG,mF,qW,p];simp only[bV,bQ,vvB,seval,bT]
 by_cases L:a= []
 ·subst L;obtain⟨t,p,m⟩:=tu r2 (aJ _) (λx=>(b.any λy=>decide (x=y))) (by simp) (f:=.func (.func 256) .nil (.cons (X h.next 0) .nil)) (λa x g B n e=>absurd B (by simp));simp only[L!,fE]at p;refine⟨w,t,?_,(r2.nw (aJ _) m).mono (aJ _) λj _ q=>by omega,(d.trans k).trans m⟩;rw[mW];simp(disch:=omega)only[vvB,seval,jO,mJ,kG,mF,qW,p];simp only[bV,bQ,vvB,seval,bT]
 obtain⟨i,f,rfl,ab,S⟩:=G.open L;rw[show(a.map dN).flatten=a.map H from qo _]at S;have z:∀x g,Ch (λj=>j=i) J g->∃g',uK [H x,X h.next 0] g=D (K ((b.any λy=>decide (x=y)))) g'/\Nw g g':=λx g n=>by
  have v:Nw I g:=k.then n λj hj e=>by rw[e]at hj;omega
  exact aD7 (M.nw v) (C.nw (aJ _) (d.trans v)) hb
 obtain⟨t,rest,p,k4,m⟩:=ayB (f:=.func (.func 256) .nil (.cons (X h.next 0) .nil)) r2 S (by omega) (λx=>(b.any λy=>decide (x=y))) (λx g _ n=>by rw[aFs];exact z x g n) (λx g _ n=>by rw[aFr];exact z x g n);refine⟨_,t,p,?_,(d.trans k).then m λj hj e=>by rw[e]at hj;omega⟩;have o:yY 9 1 (λ_=>False) (flat dN) t (.slice i 0 (a.filter λx=>!(b.any λy=>decide (x=y))).length (.un 1)) (a.filter λx=>!(b.any λy=>decide (x=y))):=by
  refine⟨(a.filter λx=>!(b.any λy=>decide (x=y))).map dN,All2.ana _,λc hc=>?_,.inr ⟨i,f,rest,rfl,?_⟩⟩
  ·obtain⟨x,_,rfl⟩:=l!.1 hc;rfl
  ·rw[show((a.filter λx=>!(b.any λy=>decide (x=y))).map dN).flatten=(a.filter λx=>!(b.any λy=>decide (x=y))).map H from qo _];exact k4
 exact(o.rws (aJ _)).mono (aJ _) λj _ q=>by
  rcases q with q|q
  ·exact q.elim
  ·cases q;omega
end
section
variable{sg:Nat}{h h' g:Hp}{P F I S p z Q:Pos->Prop}{ps pl ib qs pl2 n i d:Pos}{A B:Acc}{cb f:Cap}{fb o only:Bool}{v vm vl c t u:V}{l:List (Int×Int×Ml)}{kw:List (List Nat)}{k:Nat}{m:Ml}{x:Int×Int×Ml}{cs:List V}{w C:Wr}
def kwF(sg:Nat)(a kw:List (List Nat)):List (List Nat):=if sg=43 then a++kw else a.filter λx=>!(kw.any λy=>decide (x=y))
structure KGood2 (sg:Nat) (A:Acc) (kw:List (List Nat)) (x:Int×Int×Ml) (k:Nat) (m:Ml):Prop where
 small:A.Small
 logged:A.Logged
 at_:A.mails[k]?=some m
 find:A.mails.findIdx? (λy=>decide (y.id=m.id))=some k
 id:m.id=x.2.2.id
 inn:m.In A
 right:∀s∈kwF sg x.2.2.keys kw,EC s=true
 few:(kwF sg x.2.2.keys kw).length<=12
 ents:A.ents.length<=8000
 clock:A.clock<900000
def Wy(A:Acc)(k:Nat)(m:Ml)(l:List (List Nat)):Acc:=if xH l=m.keys then A else aa4 A k m (xH l)
def aTM(sg:Nat)(kw:List (List Nat))(A:Acc)(x:Int×Int×Ml)(B:Acc):Prop:=∃k m,KGood2 sg A kw x k m/\B=Wy A k m (kwF sg x.2.2.keys kw)
def aD8{h:Hp}{P Q:Pos->Prop}{E vb:V}{a b:List (List Nat)}(e:sg=43\/sg=45)(q:Rws P (flat dN) 1 h E a)(s:Rws Q (flat dN) 1 h vb b)(y:a.length<=100)(hb:b.length<=100):
  ∃r h',IG [Y .u8 (sg:Int),E,vb] h=D r h'/\Rws (λj=>h.next.nat<=j.nat) (flat dN) 1 h' r (kwF sg a b)/\Nw h h':=by
 rcases e with rfl|rfl
 ·exact azj q s y hb
 ·exact axd q s y hb
def azc{h:Hp}{F I P:Pos->Prop}{ps pl ib:Pos}{A:Acc}{cb:Cap}{fb:Bool}{v vm vl:V}{kw:List (List Nat)}{x:Int×Int×Ml}{k:Nat}{m:Ml}(a:dL h F ps A pl ib cb fb vm vl I)(G:KGood2 sg A kw x k m)(r:Rws P (flat dN) 1 h v (kwF sg x.2.2.keys kw)):
  ∃h' s b E,BF [X ps 0,iV m.id,v] h=D (iV 0) h'/\dL h' s ps (Wy A k m (kwF sg x.2.2.keys kw)) pl ib cb fb vm b E/\Ch F h h'/\∀j,s j->F j\/h.next.nat<=j.nat:=by
 unfold Wy;by_cases e:xH (kwF sg x.2.2.keys kw)=m.keys
 ·rw[if_pos e];obtain⟨h',e1,y⟩:=axa a G.small G.at_ G.find r G.right G.few e;exact⟨h',F,vl,I,e1,a.nw y,y.ch,λj q=>.inl q⟩
 ·rw[if_neg e];exact aD5 a G.small G.logged G.at_ G.find G.inn r G.right G.few rfl e G.ents G.clock
def axc(M:sg=43\/sg=45)(a:dL g p qs B pl2 n f o c t z)(ex:msE Q g x cs)(ks:Kn g i (O w [Y .u8 (sg:Int)]))(kk:Kn g d (O C [u]))(rk:Rws P (flat dN) 1 g u kw)(hk:x.2.2.keys.length<=100/\kw.length<=100)(G:KGood2 sg B kw x k m):
  ∃y E e J,Fp [X qs 0,.agg (V.ofList cs),X i 0,X d 0] g=D (iV 0) y/\dL y E qs (Wy B k m (kwF sg x.2.2.keys kw)) pl2 n f o c e J/\Ch p g y/\∀j,E j->p j\/g.next.nat<=j.nat:=by
 obtain⟨vk,vs,rfl,rx,-⟩:=ex;obtain⟨g1,W,s,Z⟩:=mkW g (O (N 200 true) (msC x vk vs));have X6:=Z.ld (q:=6) (x:=vk) rfl;have X2:=Z.ld (q:=2) (x:=iV x.2.2.id) rfl;have S1:=(ks.nw s).ld (q:=0) (x:=Y .u8 (sg:Int)) rfl;have K1:=(kk.nw s).ld (q:=0) (x:=u) rfl;obtain⟨r,g2,e2,r2,c2⟩:=aD8 M (rx.nw (aJ _) s) (rk.nw (aJ _) s) hk.1 hk.2;have L:=(Z.nw c2).ld (q:=2) (x:=iV x.2.2.id) rfl;have cC:∀{k:Out},chk (λh=>aF (X g.next 2) h) (iV x.2.2.id) k 1 [g1]=k:=qw rfl X2;have b:=s.trans c2;obtain⟨y,E,e,J,e3,a3,c3,f3⟩:=azc (a.nw b) G r2;rw[G.id]at e3;have aa:=b.next;refine⟨y,E,e,J,?_,a3,(b.ch (S:=p)).trans c3 λ_ _ q=>q,λj q=>(f3 j q).imp id λl=>by omega⟩;rw[arA];simp(disch:=omega)only[vvB,seval,akY,adU,adT,V.cZ,<-W,S1,X6,K1,e2,L,cC,e3];simp only[bV,bQ,vvB,seval,bT]
end
section
variable{sg:Nat}{h h' g h0:Hp}{P E Pr F I J Z S F2 I2 Q:Pos->Prop}{ps pl ib ir pc im a3 u plc z M:Pos}{A B C:Acc}{cb aa:Cap}{fb ab uid only f limit:Bool}{v vm vl vv vw vk vs d v2:V}{l fr:List (Int×Int×Ml)}{L:List V}{s s2 tx key:List Nat}{w t:Wds}{st:Sn}{bb top:Nat}{ks:Int×Int×List (Int×Int×Int)}{x i p xf:Wd}{n:Int}{w3:Wr}
structure Stores2 (sg:Nat) (A:Acc) (ks:Int×Int×List (Int×Int×Int)) (uid limit:Bool) (n:Int) (key:List Nat) (l:List (Int×Int×Ml)) (C:Acc) (fr:List (Int×Int×Ml)) (tx:List Nat):Prop where
 small:A.Small
 few:ks.2.2.length<=1000
 len:l.length<=1000
 goes:Goes (aTM sg [key]) A (l.filter λa=>!wo limit n a) C
 keys:∀x∈l,x.2.2.keys.length<=100
 smallC:C.Small
 sorted:(Wn C.mails ks.1).Pairwise λx y=>x.1<y.1
 few2:(Wn C.mails ks.1).length<50
 fnd:∀x∈l.filter λa=>!wo limit n a,∃y,((fH C.mails ks.1 0 ks.2.2).find? λy=>decide (y.1=x.1))=some y
 fresh:fr=pW (fH C.mails ks.1 0 ks.2.2) (l.filter λa=>!wo limit n a)
 at_:∀x∈fr,1<=x.1/\x.1<=ks.2.2.length
 run:Run ((l.filter (wo limit n)).map (uQ uid)) tx
def azf{x:Int×Int×Ml}{vk vs:V}{pb pn plc pr:Pos}{c:Wr}(b:Kn g pb (O c [K false])):yU [.agg (V.ofList (msC x vk vs)),X pb 0,X pn 0,X plc 0,X pr 0] g=D (K false) (g.new (O (N 200 true) (msC x vk vs))):=by
 have a:=(b.add (O (N 200 true) (msC x vk vs))).ld (q:=0) (x:=K false) rfl;rw[arB];simp(disch:=omega)only[vvB,seval,akZ,adY,adX,adW,adV,V.cZ,a];simp only[bV,bQ,vvB,seval,bT]
def atA{l:List (Int×Int×Ml)}{v:V}{E:Pos->Prop}{pb pn plc pr:Pos}{o:Wr}(r:Rws E msE 10 g v l)(hl:l.length<=1000)(m:Kn g pb (O o [K false])):
  ∃g',jA [v,.func (.func 156) .nil (.cons (X pb 0) (.cons (X pn 0) (.cons (X plc 0) (.cons (X pr 0) .nil))))] g=D v g'/\Nw g g':=by
 obtain⟨k,e1,j⟩:=yZ (f:=.func (.func 156) .nil (.cons (X pb 0) (.cons (X pn 0) (.cons (X plc 0) (.cons (X pr 0) .nil))))) r dK (λ_=>false) (by omega) λa cs g' _ c e _=>by
  obtain⟨vk,vs,rfl,-,-⟩:=e;rw[ay0,azf (m.nw c)];exact⟨_,rfl,Nw.new _ _⟩
 have b:l.findIdx? (λ_=>false)=none:=E!.2 λ_ _=>rfl;rw[b]at e1;simp only[fE]at e1;refine⟨k,?_,j⟩;rw[qF];simp(disch:=omega)only[vvB,seval,kZ,mJ,mG,mF,qW,e1];simp only[bV,bQ,vvB,seval,bT]
def aCO(an:sg=43\/sg=45)(bl:limit=false){fm:Go.Vm.F}(q:Rq bb h0 Z g pc im ps ir uid w s st L vw P F J pl ib cb fb vm vl vv I)(hv:st.vw=some ks)(ho:st.only=false)(W:Stores2 sg st.acc ks uid limit n key l C fr tx)
  (k4:Kn g u (O (N tA true) zAn)) (aw:¬(Ft F J pc im u\/OfB ir 5 L u)) (h4:h0.next.nat<=u.nat) (k3:Kn g a3 (O w3 [X ir 0])) (ai:¬(Ft F J pc im a3\/OfB ir 5 L a3)) (kn:Kn g z (O (N 3 true) [iV n])) (a2:Kn g M (O (N 4 true) [K limit]))
  (t2:WS E g v2 t) (ay:t.len=2) (hm:t.get? 0=some i) (bn:i.kind=1) (bo:i.text.length<1000000000/\∀c∈i.text,c<256) (bm:foldM i.text= [sg]++qN++afp) (hx:t.get? 1=some p) (bu:p.kind=3) (ax:p.kids.len=1) (aq:p.kids.get? 0=some xf) (ao:xf.kind=1)
  (av:∀h,pU [H xf.text] h=D (.tuple (.cons (H key) (.cons (K true) .nil))) h)
  (r:yY 200 10 Pr msE g d l) (bh:∀j,Pr j->bI d≠some j/\j.nat<top/\¬Ft F J pc im j) (ad:∀j,bI d=some j->j.nat<top/\u.nat<j.nat/\a3.nat<j.nat/\¬OfB ir 5 L j/\¬Ft F J pc im j) (ca:top<=z.nat/\top<=M.nat)
  (f0:fm.get (d! 0)=some (X pc 0)) (f3:fm.get (d! 3)=some (X a3 0)) (f4:fm.get (d! 4)=some (X u 0)) (f5:fm.get (d! 5)=some v2) (f6:fm.get (d! 6)=some d) (f7:fm.get (d! 7)=some (K true)) (f8:fm.get (d! 8)=some (X z 0)) (f9:fm.get (d! 9)=some (X M 0)):
  aV u! [.cell 4 tA] (RunT bb h0 Z vw P pc im ps ir uid w (anL 0 tx false false (!uid)) s {st with acc:=C,vw:=some (ks.1,ks.2.1,tells C ks.1 ks.2.2 fr)}) (Un fm g):=by
 have a5:=λh=>t2.len h;rw[ay]at a5;have cf:=kn.2;have b8:=a2.2;obtain⟨jm,qm,b5,bx,aR⟩:=WS.atN t2 hm;have aM:∀h',aX 3 v2 (Y U 0) h'=D (X jm qm) h':=bx;rw[bn]at aR;obtain⟨g1,e1,c1⟩:=aGw (h:=g) (vk:=b5) an bo bm;obtain⟨g2,bi,c2,a4⟩:=mkW g1 (O (N 5 true) [Y .u8 (sg:Int)]);have S2:aS 1 (X g1.next 0) (Y .u8 (sg:Int)) (g1.new (O (N 5 true) [Y .u8 0]))=D V.undef g2:=by rw[bi];exact YQ ⟨rfl,rfl⟩ (by decide)
 have aj:=c1.trans c2;have b2:WS E g2 v2 t:=t2.ch aj λj _ q=>⟨q,λq=>q⟩
 obtain⟨v3,be,t3⟩:=b2.from (k:=1) (by omega)
 have ak:∀h',fM 3 v2 (some (Y U 1)) none none h'=D v3 h':=be;have a6:=λh=>t3.len h;rw[Wds.len_drop,ay]at a6;have bt:(t.drop 1).get? 0=some p:=by rw[Wds.OI];exact hx
 obtain⟨jl,ql,b4,bv,aL,cl,bw,a7⟩:=WS.at t3 bt;have aE:∀h',aX 3 v3 (Y U 0) h'=D (X jl ql) h':=bv;rw[bu]at aL;have tk:=a7.ws;obtain⟨rk,g3,e3,o3,c3⟩:=aD9 (key:=key) tk ax aq (by rw[ao];decide) av;obtain⟨g4,bj,c4,a1⟩:=mkW g3 (O (N 26 true) [rk]);have bq:=o3.cell;have S4:aS 1 (X g3.next 0) rk (g3.new (O (N 26 true) [.aP]))=D V.undef g4:=by rw[bj];exact YQ bq (by simp)
 have bc:=(aj.trans c3).trans c4;have b3:=(tk.ch (P':=E) c3 λj _ q=>⟨q,λq=>q⟩).ch (P':=E) c4 λj _ q=>⟨q,λq=>q⟩
 obtain⟨g5,e5,c5⟩:=ae6 (WS.aTB b3 ax aq) aEy (λ_=>false) (by simp) (f:=.func (.func 155) .nil .nil) (λa cs g ha _ e _=>by
  obtain⟨vk,rfl⟩:=e;simp at ha;subst ha;rw[aDO];exact azg ao)
 have e5:lJ [b4,.func (.func 155) .nil .nil] g4=D (K false) g5:=e5;have af:=bc.trans c5;have q5:=q.nw af;have C2:=q5.wd.con.ld (q:=2) (x:=K st.only) rfl;rw[ho]at C2;obtain⟨g6,bk,c6,bO⟩:=mkW g5 (O (N 36 true) [.aP]);have ac:=af.trans c6;have q6:=q.nw ac;have cm:=af.next;have cn:=ac.next;have bz:=k3.nw ac;have bB:=k4.nw ac;have ar:=k3.2;have au:=k4.2;have az:a3≠g5.next:=λe=>by rw[e]at ar;omega
 have aD:u≠g5.next:=λe=>by rw[e]at au;omega
 have ap:=q.kr.2;have b9:ir≠g5.next:=λe=>by rw[e]at ap;omega
 have hz:=q.chz.next;subst bl;have am:l.filter (λa=>!wo false n a)=l:=v!.2 λ_ _=>rfl;have ah:(l.filter (wo false n))= []:=List.filter_eq_nil_iff.2 λ_ _=>by simp[wo]
 obtain⟨g7,e7,ag⟩:=atA (pn:=z) (plc:=g5.next) (pr:=a3) ((r.nw dK ac).rws dK) W.len (a2.nw ac);have c7:=ag.ch (S:=λj=>j=g5.next\/bI d=some j);have r7:yY 200 10 Pr msE g7 d (l.filter λa=>!wo false n a):=by rw[am];exact(r.nw dK ac).nw dK ag
 have bM:=bO.nw ag;have o7:dF g6.next.nat (λ_=>False) (flat iG) 3 1 g7 .aP ((l.filter (wo false n)).map (uQ uid)):=by rw[ah];exact dF.nil _ _ _ _ _ _
 have i7:∀j,bI d=some j->bI d=some j:=λ_ e=>e;have ae:∀j,bI d=some j->j.nat<top:=λj e=>(ad j e).1;have q7:=q6.beside c7 λj e=>by
  rcases e with e|e
  ·subst e;exact⟨λo=>by have:=(o.from q.bd _).2;omega,λf=>by have:=q.wd.lt _ f;omega,by omega⟩
  ·obtain⟨h1,h2,h3,bg,h5⟩:=ad j e;exact⟨bg,h5,by omega⟩
 have a0:=bz.ch c7 λe=>e.elim az λe=>by have:=(ad _ e).2.2.1;omega
 have bE:=bB.ch c7 λe=>e.elim aD λe=>by have:=(ad _ e).2.1;omega
 have br:=a4.2;have bs:=a1.2;have n1:=c1.next;have n2:=c2.next;have n3:=c3.next;have n4:=c4.next;have n5:=c5.next;have n7:=c7.next;have bR:Kn g7 g1.next (O (N 5 true) [Y .u8 (sg:Int)]):=((((a4.nw c3).nw c4).nw c5).nw c6).ch c7 λe=>by
  rcases e with e|e
  ·rw[e]at br;omega
  ·have:=ae _ e;omega
 have bS:Kn g7 g3.next (O (N 26 true) [rk]):=((a1.nw c5).nw c6).ch c7 λe=>by
  rcases e with e|e
  ·rw[e]at bs;omega
  ·have:=ae _ e;omega
 have bX:=(o3.rws (aJ _)).mono (P':=λj=>g2.next.nat<=j.nat/\j.nat<g3.next.nat) (aJ _) λj hj q=>⟨q,hj⟩
 have b0:Rws (λj=>g2.next.nat<=j.nat) (flat dN) 1 g7 rk [key]:=(((bX.nw (aJ _) c4).nw (aJ _) c5).nw (aJ _) c6).ch (aJ _) c7 λj hj q=>⟨q.1,λe=>by
  have hq:=q.2;rcases e with e|e
  ·rw[e]at hq;omega
  ·have:=ae _ e;have:=q.1;omega⟩
 have a9:=a0.ld (q:=0) (x:=X ir 0) rfl;obtain⟨g8,F8,co,ck,cc,cd,cr,cq,I8,e8,a8,c8,al⟩:=aEa (f:=.func (.func 158) .nil (.cons (X g1.next 0) (.cons (X g3.next 0) .nil))) q7.wd.acc W.small (r7.rws dK) (R! (H! _ _) W.len) W.goes W.smallC q7.kr q7.l1
  (λB C' a cs g qs pl2 cj F2 I2 aa ab b7 cp ha hR b cg ce e=>by
   obtain⟨k,m,G,rfl⟩:=hR;obtain⟨Q,e⟩:=e;rw[aDN];obtain⟨bf,F3,b6,I3,e',a',c',f'⟩:=axc an b e (bR.nw cg) (bS.nw cg) (b0.nw (aJ _) cg) ⟨W.keys a (List.mem_filter.1 ha).1,by simp⟩ G;exact⟨bf,F3,b7,b6,I3,e',a',c',f'⟩)
 have q8:=q7.aOP a8 c8 al;have ci:=q7.wd.acc.st.2;have y:Ft F J pc im ps:=.inl q.wd.acc.foot.1;have bA:=a0.ch c8 λe=>ai (.inl (by rw[e];exact y));have bL:=bE.ch c8 λe=>aw (.inl (by rw[e];exact y));have bp:ps.nat<g.next.nat:=q.wd.acc.st.2;have bN:=bM.ch c8 λe=>by rw[<-e]at bp;omega
 have ba:¬(Ft F8 J pc im u\/OfB ir 5 L u):=λe=>by
  rcases e with(e|e|e|e)|e
  ·rcases al _ e with e|e
   ·exact aw (.inl (by rw[e];exact y))
   ·omega
  ·exact aw (.inl (.inr (.inl e)))
  ·exact aw (.inl (.inr (.inr (.inl e))))
  ·exact aw (.inl (.inr (.inr (.inr e))))
  ·exact aw (.inr e)
 have hJ:∀j,J j->j.nat<g.next.nat:=λj e=>q.wd.lt j (.inr (.inl e));have b1:Rws (λj=>g6.next.nat<=j.nat) (flat iG) 1 g8 .aP ((l.filter (wo false n)).map (uQ uid)):=
  (o7.rows (aJ _) (λ_ _ q=>q.elim) λj hb _=>hb).ch (aJ _) c8 λj _ q=>⟨q,λe=>by rw[e]at q;omega⟩
 have r8:Rws (λj=>Pr j\/bI d=some j) msE 10 g8 d (l.filter λa=>!wo false n a):=(r7.rws dK).ch dK c8 λj hj pq=>⟨pq,λe=>by
  rw[e]at pq;rcases pq with pq|pq
  ·exact(bh _ pq).2.2 y
  ·exact(ad _ (i7 _ pq)).2.2.2.2 y⟩
 have hC:=λfm=>aEF (fm:=fm) (fr:=fr) (tx:=tx) q8 hv W.smallC W.few W.sorted W.few2 bL ba h4 bA (λe=>ai (.inl (.inr (.inl e)))) bN (λe=>by have:=hJ _ e;omega) b1 (λj q e=>by have:=hJ j e;omega) r8 (R! (H! _ _) W.len) W.fnd W.fresh W.at_ W.run;have FF:∀g,eP (.func 156) [] [X M 0,X z 0,X g5.next 0,X a3 0] g=D (.func (.func 156) .nil (.cons (X M 0) (.cons (X z 0) (.cons (X g5.next 0) (.cons (X a3 0) .nil))))) g:=λg=>rfl;have FG:∀g,eP (.func 158) [] [X g1.next 0,X g3.next 0] g=D (.func (.func 158) .nil (.cons (X g1.next 0) (.cons (X g3.next 0) .nil))) g:=λg=>rfl;unfold Un;simp(disch:=omega)only[vvB,seval,F!,Rh,Rf,Kt,Q8,Q7,Q5,QZ,QY,QX,QW,QV,QU,QT,QS,QO,f0,f3,f4,f5,f6,f7,f8,f9,a5,aM,aR,e1,oV,S2,ak,a6,aE,aL,bw,e3,S4,e5,C2,<-bk,FF,FG,e7,a9,e8,Int.reduceEq,Int.reduceNe,Int.reduceLT,ne_eq,not_true_eq_false,decide_true,decide_false,Nat.reduceSub,Int.natCast_one];exact hC _ (qK2 f0) (qK2 f3) (qK2 f4) (qK0) (qK0) (qK0)
structure StoreW2 (sg:Nat) (w:Wds) (limit:Bool) (n:Int) (tx key:List Nat):Prop where
 set:∃x,w.get? 0=some x/\x.kind≠3/\x.text=tx
 len:w.len=(if limit=true then 4 else 3)
 zero:limit=false->n=0
 mode:∃x,w.get? (if limit=true then 2 else 1)=some x/\x.kind=1/\(x.text.length<1000000000/\∀c∈x.text,c<256)/\foldM x.text= [sg]++qN++afp
 flag:∃x xf,w.get? (if limit=true then 3 else 2)=some x/\x.kind=3/\x.kids.len=1/\x.kids.get? 0=some xf/\xf.kind=1/\∀h,pU [H xf.text] h=D (.tuple (.cons (H key) (.cons (K true) .nil))) h
def azh(aw:sg=43\/sg=45)(ag:limit=false){r:List (Int×Int)}(q:Rq bb h0 Z h pc im ps ir uid w s st L vw P F J pl ib cb fb vm vl vv I)(hv:st.vw=some ks)(ho:st.only=false)(hw:StoreW2 sg w limit n tx key)(am:XB tx (zi uid ks.2.2)=some r)
  (W:Stores2 sg st.acc ks uid limit n key ((fH st.acc.mails ks.1 0 ks.2.2).filter λx=>inM r (uQ uid x)) C fr s2):
  ∃h',TK [X pc 0,X ir 0] h=D (anV 0 s2 false false (!uid)) h'/\DF bb h0 Z vw P h' pc im ps ir uid w s {st with acc:=C,vw:=some (ks.1,ks.2.1,tells C ks.1 ks.2.2 fr)}:=by
 obtain⟨x0,bj,az,bh⟩:=hw.set;obtain⟨h1,ax,c1,k3⟩:=mkW h (O (N 138 true) [X ir 0]);have B1:eX 138 (X ir 0) h=D (X h.next 0) h1:=by rw[ax];rfl
 obtain⟨h2,ay,c2,k4⟩:=mkW h1 (O (N tA true) zAn);have ae:=c1.trans c2;have q2:=q.nw ae;have K3:=(k3.nw c2).ld (q:=0) (x:=X ir 0) rfl;have R3:=q2.kr.ld q2.l3;have lw:=λh=>q2.aHr h;have ak:((w.len:Int)<3)=False:=eq_false (by have:=hw.len;cases limit<;>simp at this<;>omega);obtain⟨j0,q0,bv,i0,l0⟩:=WS.atN q2.ws bj;have bl:∀h',aX 3 vw (Y U 0) h'=D (X j0 q0) h':=i0;rw[bh]at l0;obtain⟨d,a,e3,r3,c3,i3⟩:=q2.set (vk:=bv) hv W.small W.few az am;have au:=ae.trans c3;have q3:=q.nw au;obtain⟨v1,av,t1⟩:=q3.ws.from (k:=1) (by have:=hw.len;cases limit<;>simp at this<;>omega)
 have ai:∀h',fM 3 vw (some (Y U 1)) none none h'=D v1 h':=av;obtain⟨h4,y⟩:∃h4,h4=(a.new (O (N 3 true) [iV 0])).new (O (N 4 true) [K false]):=⟨_,rfl⟩
 have c4:Nw a h4:=by rw[y];exact(Nw.new _ _).trans (Nw.new _ _)
 have ap:Kn h4 a.next (O (N 3 true) [iV 0]):=by rw[y];exact(Kn.new a _).add _
 have bg:(a.new (O (N 3 true) [iV 0])).next=a.next.succ:=rfl;have bn:Kn h4 a.next.succ (O (N 4 true) [K false]):=by rw[y];exact Kn.new _ _
 have P2:=aTC a (O (N 3 true) [iV 0]) (O (N 4 true) [K false]);rw[<-y]at P2;obtain⟨m,G⟩:∃m,m=h4.put a.next (some (O (N 3 true) [iV 0])):=⟨_,rfl⟩
 have S5:aS 1 (X a.next 0) (Y U 0) h4=D V.undef m:=by rw[G];exact ap.st ⟨rfl,rfl⟩ (by decide)
 have al:a.next.succ≠a.next:=λe=>by have:=congrArg Pos.nat e;rw[Pos.fD]at this;omega
 have c5:Ch (λj=>j=a.next) h4 m:=by rw[G];exact Ch.put _ _ rfl
 have bp:Kn m a.next (O (N 3 true) [iV 0]):=by rw[G];exact ap.put _
 have an:=bn.ch c5 al;have ah:Nw a m:=by rw[G];exact c4.put (k! _) _
 have bi:∃x1,w.get? 1=some x1/\decide (x1.kind=3)=limit:=by
  cases limit with
  |true=>cases ag
  |false=>obtain⟨x,h1,h2,-⟩:=hw.mode;exact⟨x,h1,by rw[h2];rfl⟩
 obtain⟨x1,bk,aj⟩:=bi;have ad:(w.drop 1).get? 0=some x1:=by rw[Wds.OI];exact bk
 have bt:WS P m v1 (w.drop 1):=t1.ch ah λj _ q=>⟨q,λq=>q⟩
 have bu:WS P (aK 2 a) v1 (w.drop 1):=t1.ch (Nw.bump 2 a) λj _ q=>⟨q,λq=>q⟩
 obtain⟨j1,q1,bB,i1,l1,-,-,-⟩:=WS.at bt ad;have bm:∀h',aX 3 v1 (Y U 0) h'=D (X j1 q1) h':=i1;have bs:aF (X j1 q1) (aK 2 a)=D (Y U x1.kind) (aK 2 a):=by
  obtain⟨j',q',_,i',l',-,-,-⟩:=WS.at bu ad;have e1:=(i' a).symm.trans (i1 a);injection e1 with e1;injection e1 with e1 e2;subst e1;subst e2;exact l'
 have cC:∀{k:Out},chk (λh=>aF (X j1 q1) h) (Y U x1.kind) k 1 [aK 2 a]=k:=qw rfl bs;obtain⟨h6,ac⟩:∃h6,h6=m.put a.next.succ (some (O (N 4 true) [K limit])):=⟨_,rfl⟩
 have S6:aS 1 (X a.next.succ 0) (K (decide (x1.kind=3))) m=D V.undef h6:=by rw[ac,aj];exact an.st ⟨rfl,rfl⟩ (by decide)
 have c6:Ch (λj=>j=a.next.succ) m h6:=by rw[ac];exact Ch.put _ _ rfl
 have bq:=bp.ch c6 al.symm;have ao:Kn h6 a.next.succ (O (N 4 true) [K limit]):=by rw[ac];exact an.put _
 have af:Nw a h6:=by rw[ac];exact ah.put (by rw[Pos.fD];omega) _
 have LM:=ao.ld (q:=0) (x:=K limit) rfl;have bz:=ae.next;have n1:=c1.next;have n3:=c3.next;have bA:=af.next;have hz:=q.chz.next;have bw:=k3.2;have bx:=k4.2;have tail:∀{h7:Hp} {v2:V} {t:Wds} {i p xf:Wd} (fm:Go.Vm.F),Nw a h7->Kn h7 a.next (O (N 3 true) [iV n])->Kn h7 a.next.succ (O (N 4 true) [K limit])->WS P h7 v2 t->t.len=2->t.get? 0=some i->i.kind=1->(i.text.length<1000000000/\∀c∈i.text,c<256)->foldM i.text= [sg]++qN++afp->t.get? 1=some p->p.kind=3->p.kids.len=1->p.kids.get? 0=some xf->xf.kind=1->
   (∀h,pU [H xf.text] h=D (.tuple (.cons (H key) (.cons (K true) .nil))) h)->
   fm.get (d! 0)=some (X pc 0)->fm.get (d! 3)=some (X h.next 0)->fm.get (d! 4)=some (X h1.next 0)->fm.get (d! 5)=some v2->fm.get (d! 6)=some d->fm.get (d! 7)=some (K true)->fm.get (d! 8)=some (X a.next 0)->fm.get (d! 9)=some (X a.next.succ 0)->
   aV u! [.cell 4 tA] (RunT bb h0 Z vw P pc im ps ir uid w (anL 0 s2 false false (!uid)) s {st with acc:=C,vw:=some (ks.1,ks.2.1,tells C ks.1 ks.2.2 fr)}) (Un fm h7):=by
  intro h7 v2 t i p xf fm c7 br bo t2 a1 a2 a3 u a5 a6 a7 a8 a9 aq ar f0 f3 f4 f5 f6 f7 f8 f9;have q7:=q3.nw c7;have b:∀j:Pos,(Ft F J pc im j\/OfB ir 5 L j)->j.nat<h.next.nat:=λj e=>e.elim (q.wd.lt j) λo=>(o.from q.bd _).2;have rr:yY 200 10 (λj=>(h2.next.nat<=j.nat/\bI d≠some j)/\j.nat<a.next.nat) msE h7 d _:=(r3.ch dK (Nw.refl _) (λ_ _ q=>q) λj hj q=>⟨⟨q,hj⟩,λq=>q⟩).nw dK c7;refine aCO aw ag (top:=a.next.nat) q7 hv ho W ((k4.nw c3).nw c7) (λe=>by have:=b _ e;omega) (by omega) (((k3.nw c2).nw c3).nw c7) (λe=>by have:=b _ e;omega) br bo t2 a1 a2 a3 u a5 a6 a7 a8 a9 aq ar rr
   (λj pj=>⟨pj.1.2,pj.2,λe=>by have:=b j (.inl e);have:=pj.1.1;omega⟩) (λj e=>?_) ⟨k! _,by rw[Pos.fD];omega⟩ f0 f3 f4 f5 f6 f7 f8 f9
  have hj:=i3 j e;exact⟨hj.2,by omega,by omega,λo=>by have:=b j (.inr o);omega,λo=>by have:=b j (.inl o);omega⟩
 rw[atP,atE]
 suffices T:aV u! [.cell 4 tA] (RunT bb h0 Z vw P pc im ps ir uid w (anL 0 s2 false false (!uid)) s {st with acc:=C,vw:=some (ks.1,ks.2.1,tells C ks.1 ks.2.2 fr)})
   ((aB Ky (aB Kw (aB (aB Kv (tT 27 (aB aCE A!) r!)) (aB Ku (aB Kt (aB Kr (aB (aB Kq (tT 44 (aB VI (aB VH (aB Rk Kt))) r!)) Un))))))) (T.set (some (X ir 0)) (d! 1) (T.set (some (X pc 0)) (d! 0) T.nil)) h) by
  obtain⟨r,h',e,rfl,q⟩:=T;exact⟨h',e,q⟩
 obtain⟨i,a4,ba,bc,be⟩:=hw.mode;obtain⟨p,xf,aD,aE,aL,aM,aR,a0⟩:=hw.flag;cases limit with
 |false=>
  have bf:=hw.zero rfl;subst bf;simp(disch:=omega)only[vvB,seval,F!,Ky,Kw,Kv,Ku,Kt,Kr,Kq,B1,oV,<-ay,K3,R3,lw,ak,decide_false,bl,l0,e3,ai,aN1,P2,S5,bm,l1,cC,S6,LM];exact tail _ af bq ao (t1.ch af λj _ q=>⟨q,λq=>q⟩) (by rw[Wds.len_drop,hw.len];rfl) (by rw[Wds.OI];exact a4) ba bc be (by rw[Wds.OI];exact aD) aE aL aM aR a0 (qK0) (qK0) (qK0) (qK0) (qK0) (qK0) (qK0) (qK0)
 |true=>cases ag
end
end Go.Proofs.Im
namespace Go.Im
abbrev aKf:List Nat:= [36,97,110,115,119,101,114,101,100]
abbrev aJ9:List Nat:= [36,102,108,97,103,103,101,100]
abbrev aKd:List Nat:= [36,100,101,108,101,116,101,100]
abbrev aJ3:List Nat:= [36,115,101,101,110]
abbrev aKc:List Nat:= [36,100,114,97,102,116]
def lD(s:List Nat):List Nat:=
 if s=aKf then [92,65,110,115,119,101,114,101,100] else if s=aJ9 then [92,70,108,97,103,103,101,100] else if s=aKd then [92,68,101,108,101,116,101,100] else if s=aJ3 then [92,83,101,101,110] else if s=aKc then [92,68,114,97,102,116] else s
def fO(l:List (List Nat)):List Nat:= [40]++dH [32] (l.map lD)++ [41]
def aE9(s:List Nat):(lD s).length<=s.length+9:=by
 unfold lD
 repeat' (first|split|simp)
def asf{s:List Nat}(h:∀c∈s,c<256):∀c∈lD s,c<256:=by
 unfold lD
 repeat' (first|split|exact(by decide)|exact h)
def aIo{s:List Nat}(h:s≠ []):lD s≠ []:=by
 unfold lD
 repeat' (first|split|simp|exact h)
end Go.Im
namespace Go.Proofs.Im
section
variable{h h' g:Hp}{P:Pos->Prop}{v:V}{s:List Nat}{l:List (List Nat)}
def aHi(s:List Nat)(h:Hp):Xv [H s] h=D (H (lD s)) h:=by
 rw[ayw];simp only[vvB,seval,as7,axG,akM,akL,lW];unfold lD;by_cases e1:s=aKf
 ·rw[if_pos e1];simp only[vvB,seval,akK,e1,decide_true];simp only[bV,bQ,vvB,seval,bT]
 rw[if_neg e1];simp only[vvB,seval,e1,decide_false,akJ,lW];by_cases e2:s=aJ9
 ·rw[if_pos e2];simp only[vvB,seval,akI,e2,decide_true];simp only[bV,bQ,vvB,seval,bT]
 rw[if_neg e2];simp only[vvB,seval,e2,decide_false,akH,lW];by_cases a:s=aKd
 ·rw[if_pos a];simp only[vvB,seval,akG,a,decide_true];simp only[bV,bQ,vvB,seval,bT]
 rw[if_neg a];simp only[vvB,seval,a,decide_false,akF,lW];by_cases b:s=aJ3
 ·rw[if_pos b];simp only[vvB,seval,akE,b,decide_true];simp only[bV,bQ,vvB,seval,bT]
 rw[if_neg b];simp only[vvB,seval,b,decide_false,ag9,lW];by_cases c:s=aKc
 ·rw[if_pos c];simp only[vvB,seval,ag8,c,decide_true];simp only[bV,bQ,vvB,seval,bT]
 rw[if_neg c];simp only[vvB,seval,c,decide_false,Sm];simp only[bV,bQ,vvB,seval,bT]
def anx(l:List (List Nat)):(l.map dN).flatten=l.map H:=qo l
def aCR:∀{l:List (List Nat)},(∀s∈l,s.length<=100)->fP (l.map lD)<=l.length*109
 | [],_=>by simp[fP]
 |s::l,h=>by
  have b:=aE9 s;have c:=h s (by simp);have d:=aCR (l:=l) λt a=>h t (by simp[a]);simp only[w!,fP,List.length_cons];simp[fP] at*;omega
def aJ7{l:List (List Nat)}(h:fP l<=10000)(hn:l.length<=100):(dH [32] l).length<=10100:=by
 cases l with
 |nil=>simp[dH]
 |cons a r=>
  rw[xI,b!,WM];simp[fP]at h⊢;simp at hn;omega
def atn(r:Rws P (flat dN) 1 h v l)(hn:l.length<=20)(hl:∀s∈l,s.length<=100/\(∀c∈s,c<256)/\s≠ []):
  ∃h',II [v] h=D (H (fO l)) h'/\Nw h h':=by
 rw[ayv]
 suffices T:aV u! [.tmp 2] (λw h'=>w=H (fO l)/\Nw h h') (ahx (T.set (some v) (d! 0) T.nil) h) by
  obtain⟨w,h',e,rfl,c⟩:=T;exact⟨h',e,c⟩
 have aa:fP (l.map lD)<=l.length*109:=aCR λs hs=>(hl s hs).1;have Z:(dH [32] (l.map lD)).length<=10100:=aJ7 (by omega) (by simp;omega);simp(disch:=omega)only[vvB,seval,ahx,axG,agf,akB,r.len];refine Oc.then (dP (σ:=V) (n:=l.length) (pi:=8) (pn:=7) (pc:=9) [3,6] (λr=> [r,v]) (λk r g=>Nw h g/\gK h.next.nat (flat dN) 9 1 g r ((l.map lD).take k))
  (A:=λfr g=>∃r,fr.get (d! 3)=some r/\Nw h g/\gK h.next.nat (flat dN) 9 1 g r (l.map lD)) (B:=λ_ _=>False) (s:=.aP)
  (λfr h _ k e1 e2=>by simp only[vvB,seval,LD,e1,e2]) (λfr h k _ e1=>by simp(disch:=omega)only[vvB,seval,Lr,e1]) (by decide) (by rw[dR];omega) (qK0) (qK0) (by simp only[Fa,vvB,seval,and_self]) ⟨Nw.refl _,gK.nil _ _ _ _ _⟩ ?_ ?_) ?_ ?_
 ·intro k w fr g hk C S m u;obtain⟨f3,z,-⟩:=m;obtain⟨c,o⟩:=u;obtain⟨x,d⟩:∃x,l[k]?=some x:=⟨_,c! hk⟩
  obtain⟨i,q,cs,e1,ex,-,-,-,f,-⟩:=(r.nw (aJ _) c).elt d;obtain rfl:cs=dN x:=ex;have y:=f g rfl 0 (H x) rfl;rw[F!]at y;have G:=aDV 9 (lD x) g;have W:=c.next;obtain⟨r',g3,f,o3,M,-⟩:=o.app (P0:=λ_=>False) (bt:=16) (x:=lD x) (cs:=dN (lD x)) (aJ _) (by omega) rfl rfl (λj _ q=>q.elim) (by rw[p!];omega);simp(disch:=omega)only[vvB,seval,akz,aky,f3,z,C,e1,y,aHi,G,f];refine⟨qK2 C,qK2 S,r',by simp only[Fa,vvB,seval,z,and_self],c.then M λj hj q=>by have:=(o.eY q).1;omega,?_⟩;rw[K!,o!,d];exact o3
 ·intro w fr g m u;obtain⟨f3,-⟩:=m;obtain⟨c,o⟩:=u;rw[show l.length=(l.map lD).length by simp,B!]at o;exact⟨w,f3,c,o⟩
 ·rintro fr g ⟨w,f3,c,o⟩;obtain⟨Q,a,hw,sl,kk,p⟩:=o.rws (aJ _);obtain rfl:=a.flat;rw[anx]at sl;obtain⟨r1,g1,e1,rfl,L⟩:=UF (sep:= [32]) sl kk (k! _) (by simp;omega) (by simp) (by omega) (λt ht=>by obtain⟨x,d,rfl⟩:=l!.1 ht;exact asf (hl x d).2.1) (by simp) (by
   by_cases E:l.length<=1
   ·exact .inl (by simpa using E)
   ·right
    match l,hl with
    |a::r,hl=>
     intro e;have:=congrArg List.length e;have h2:(lD a).length≠0:=λq=>aIo (hl a (by simp)).2.2 (List.length_eq_zero_iff.1 q);cases r with
     |nil=>simp at E
     |cons b r=>simp[dH]at this)
  have I:∀g,aH .add .none (H [40]) (H (dH [32] (l.map lD))) g=D (H ([40]++dH [32] (l.map lD))) g:=λg=>dw (by simp;omega);have J:∀g,aH .add .none (H ([40]++dH [32] (l.map lD))) (H [41]) g=D (H ([40]++dH [32] (l.map lD)++ [41])) g:=λg=>dw (by simp;omega);simp(disch:=omega)only[vvB,seval,akw,f3,e1,I,J];exact aV.ret (qT0) ⟨rfl,c.then L λ_ _ q=>q⟩
 ·intro fr g q;exact q.elim
end
end Go.Proofs.Im
