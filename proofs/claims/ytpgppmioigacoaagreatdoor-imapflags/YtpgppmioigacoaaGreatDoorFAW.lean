/- Lemmas. No conditions. -/
import Derived.Test.YtpgppmioigacoaaGreatDoorFAV
import Derived.Test.YtpgppmioigacoaaGreatDoorFAT
import Derived.Test.YtpgppmioigacoaaGreatDoorFAU
import Derived.Test.YtpgppmioigacoaaGreatDoorFAS
import Derived.Test.YtpgppmioigacoaaGreatDoorFAR
set_option linter.all false
set_option maxRecDepth 100000
open List renaming take→a!,getElem?_eq_getElem→c!,mem_of_getElem?→d!,getElem?_map→e!,getElem?_eq_some_iff→g!,mem_append→i!,length_map→j!,getElem?_set_self→k!,length_cons→l!,pairwise_map→n!,drop_of_length_le→q!,length_set→r!,append_nil→t!,getElem?_set_ne→v!,range→x!,length_append→y!,mem_map→z!,ext_getElem?→A!,take_length→B!,drop_zero→C!,length_filterMap_le→D!,length_eq_zero_iff→E!,map_set→F!,mem_iff_getElem?→K!,mem_singleton→L!,findIdx?_cons→M!,foldl_append→N!,drop_append→Q!,map_append→R!,find?_cons→S!,mem_cons→T!,map_map→U!,length→X!
open Nat renaming reduceEqDiff→b!,le_refl→o!,ble_eq_true_of_le→u!,mul_one→w!,zero_add→G!,le_trans→H!,beq_refl→I!,add_zero→J!,mul→O!,ble→P!,blt→V!,beq→W!
open Go.Vm.Pos renaming of→h!
open Go.Proofs.Tryz renaming prog→p!
open Int renaming sub_zero→Y!,sub_self→Z!,reduceNe→a?,le_trans→b?,le_refl→c?
open Go.Vm.V renaming int→Y,ptr→X,bool→K,str→H
open Go.IntKind renaming i64→U
open Go.Vm.Ob renaming cells→O
open Go.Vm.Wr renaming rw→N
open Go.Vm.R renaming ok→D
noncomputable section
open Go Go.Vm Go.Ln Go.Proofs Go.Im Go.Proofs.Im
namespace Go.Im
def iW{h:Hp}{p:Pos}{s:List Nat}{v:V}{es a:List (V×V)}(c:p=h.next)(b:alk (H s) v es=some a):gB .string (.map p) (H s) v (h.new (.map es))=D V.undef (h.new (.map a)):=by
 subst c;show xC (.map h.next) (H s) v (h.new (.map es))=_;simp only[xC,dY,b,aqd]
def aQx(n:Nat)(x:V)(h:Hp):eP (.func n) [x] [] h=D (.func (.func n) (.cons x .nil) .nil) h:=(rfl)
def aS9(g:Nat)(x:V)(n:Int)(u:Bool)(h:Hp):bW [.gV,Y U 0,(K false)] [(0,1,.func (.func g) (.cons x .nil) .nil),(1,1,(Y U n)),(2,1,(K u))] h=D (.agg (.cons (.func (.func g) (.cons x .nil) .nil) (.cons (Y U n) (.cons (K u) .nil)))) h:=(rfl)
end Go.Im
namespace Go.Proofs.Im
section
variable{h h':Hp}{F I:Pos->Prop}{ps pl ib p pc im:Pos}{A:Acc}{cb:Cap}{fb only:Bool}{vm vl vw:V}{f:Nat}{st:Sn}
def aJP(h:Hp):∃pc im h',aEt [] h=D (X pc 0) h'/\Kn h' pc (O (N tCn true) [K false,.dn,K false,iV 0,.map im])/\Kn h' im (.map (gX pc))/\pc≠im/\Nw h h'/\h.next.nat<=pc.nat/\h.next.nat<=im.nat:=by
 obtain⟨pc,c⟩:∃pc,pc=h.next:=⟨_,rfl⟩
 obtain⟨a,d,Q,-⟩:=mkW h (O (N tCn true) [K false,.dn,K false,iV 0,.jT]);have S:Kn a pc (O (N tCn true) [K false,.dn,K false,iV 0,.jT]):=by rw[d,c];exact Kn.new _ _
 have n1:a.next.nat=h.next.nat+1:=by rw[d,bJ]
 have J:bW [(K false),.dn,(K false),Y U 0,.jT] [] h=D (.agg (V.ofList [K false,.dn,K false,iV 0,.jT])) h:=rfl;have P:eX tCn (.agg (V.ofList [K false,.dn,K false,iV 0,.jT])) h=D (X pc 0) a:=by rw[d,c];rfl
 obtain⟨p,b⟩:∃p,p=a.next:=⟨_,rfl⟩
 have L:aaR a=D (.map p) (a.new (.map [])):=by rw[b];rfl
 have m0:gB .string (.map p) (H [99,97,112,97,98,105,108,105,116,121]) (.agg (.cons (.func (.func 57) (.cons (X pc 0) .nil) .nil) (.cons (Y U 0) (.cons (K false) .nil)))) (a.new (.map []))=D V.undef (a.new (.map (a! 1 (gX pc)))):=iW b rfl;have Z:gB .string (.map p) (H [110,111,111,112]) (.agg (.cons (.func (.func 58) (.cons (X pc 0) .nil) .nil) (.cons (Y U 0) (.cons (K false) .nil)))) (a.new (.map (a! 1 (gX pc))))=D V.undef (a.new (.map (a! 2 (gX pc)))):=iW b rfl;have m2:gB .string (.map p) (H [108,111,103,111,117,116]) (.agg (.cons (.func (.func 59) (.cons (X pc 0) .nil) .nil) (.cons (Y U 0) (.cons (K false) .nil)))) (a.new (.map (a! 2 (gX pc))))=D V.undef (a.new (.map (a! 3 (gX pc)))):=iW b rfl;have m3:gB .string (.map p) (H [108,111,103,105,110]) (.agg (.cons (.func (.func 60) (.cons (X pc 0) .nil) .nil) (.cons (Y U 1) (.cons (K false) .nil)))) (a.new (.map (a! 3 (gX pc))))=D V.undef (a.new (.map (a! 4 (gX pc)))):=iW b rfl;have m4:gB .string (.map p) (H [115,101,108,101,99,116]) (.agg (.cons (.func (.func 61) (.cons (X pc 0) .nil) .nil) (.cons (Y U 2) (.cons (K false) .nil)))) (a.new (.map (a! 4 (gX pc))))=D V.undef (a.new (.map (a! 5 (gX pc)))):=iW b rfl;have m5:gB .string (.map p) (H [101,120,97,109,105,110,101]) (.agg (.cons (.func (.func 62) (.cons (X pc 0) .nil) .nil) (.cons (Y U 2) (.cons (K false) .nil)))) (a.new (.map (a! 5 (gX pc))))=D V.undef (a.new (.map (a! 6 (gX pc)))):=iW b rfl;have m6:gB .string (.map p) (H [99,114,101,97,116,101]) (.agg (.cons (.func (.func 63) (.cons (X pc 0) .nil) .nil) (.cons (Y U 2) (.cons (K false) .nil)))) (a.new (.map (a! 6 (gX pc))))=D V.undef (a.new (.map (a! 7 (gX pc)))):=iW b rfl;have m7:gB .string (.map p) (H [100,101,108,101,116,101]) (.agg (.cons (.func (.func 64) (.cons (X pc 0) .nil) .nil) (.cons (Y U 2) (.cons (K false) .nil)))) (a.new (.map (a! 7 (gX pc))))=D V.undef (a.new (.map (a! 8 (gX pc)))):=iW b rfl;have m8:gB .string (.map p) (H [114,101,110,97,109,101]) (.agg (.cons (.func (.func 65) (.cons (X pc 0) .nil) .nil) (.cons (Y U 2) (.cons (K false) .nil)))) (a.new (.map (a! 8 (gX pc))))=D V.undef (a.new (.map (a! 9 (gX pc)))):=iW b rfl;have m9:gB .string (.map p) (H [108,105,115,116]) (.agg (.cons (.func (.func 66) (.cons (X pc 0) .nil) .nil) (.cons (Y U 2) (.cons (K false) .nil)))) (a.new (.map (a! 9 (gX pc))))=D V.undef (a.new (.map (a! 10 (gX pc)))):=iW b rfl;have s:gB .string (.map p) (H [115,116,97,116,117,115]) (.agg (.cons (.func (.func 67) (.cons (X pc 0) .nil) .nil) (.cons (Y U 2) (.cons (K false) .nil)))) (a.new (.map (a! 10 (gX pc))))=D V.undef (a.new (.map (a! 11 (gX pc)))):=iW b rfl;have t:gB .string (.map p) (H [97,112,112,101,110,100]) (.agg (.cons (.func (.func 68) (.cons (X pc 0) .nil) .nil) (.cons (Y U 2) (.cons (K false) .nil)))) (a.new (.map (a! 11 (gX pc))))=D V.undef (a.new (.map (a! 12 (gX pc)))):=iW b rfl;have u:gB .string (.map p) (H [99,104,101,99,107]) (.agg (.cons (.func (.func 58) (.cons (X pc 0) .nil) .nil) (.cons (Y U 3) (.cons (K false) .nil)))) (a.new (.map (a! 12 (gX pc))))=D V.undef (a.new (.map (a! 13 (gX pc)))):=iW b rfl;have v:gB .string (.map p) (H [99,108,111,115,101]) (.agg (.cons (.func (.func 69) (.cons (X pc 0) .nil) .nil) (.cons (Y U 3) (.cons (K false) .nil)))) (a.new (.map (a! 13 (gX pc))))=D V.undef (a.new (.map (a! 14 (gX pc)))):=iW b rfl;have w:gB .string (.map p) (H [101,120,112,117,110,103,101]) (.agg (.cons (.func (.func 70) (.cons (X pc 0) .nil) .nil) (.cons (Y U 3) (.cons (K true) .nil)))) (a.new (.map (a! 14 (gX pc))))=D V.undef (a.new (.map (a! 15 (gX pc)))):=iW b rfl;have x:gB .string (.map p) (H [115,101,97,114,99,104]) (.agg (.cons (.func (.func 71) (.cons (X pc 0) .nil) .nil) (.cons (Y U 3) (.cons (K true) .nil)))) (a.new (.map (a! 15 (gX pc))))=D V.undef (a.new (.map (a! 16 (gX pc)))):=iW b rfl;have y:gB .string (.map p) (H [102,101,116,99,104]) (.agg (.cons (.func (.func 72) (.cons (X pc 0) .nil) .nil) (.cons (Y U 3) (.cons (K true) .nil)))) (a.new (.map (a! 16 (gX pc))))=D V.undef (a.new (.map (a! 17 (gX pc)))):=iW b rfl;have z:gB .string (.map p) (H [115,116,111,114,101]) (.agg (.cons (.func (.func 73) (.cons (X pc 0) .nil) .nil) (.cons (Y U 3) (.cons (K true) .nil)))) (a.new (.map (a! 17 (gX pc))))=D V.undef (a.new (.map (a! 18 (gX pc)))):=iW b rfl;have B:gB .string (.map p) (H [99,111,112,121]) (.agg (.cons (.func (.func 74) (.cons (X pc 0) .nil) .nil) (.cons (Y U 3) (.cons (K true) .nil)))) (a.new (.map (a! 18 (gX pc))))=D V.undef (a.new (.map (a! 19 (gX pc)))):=iW b rfl;have C:gB .string (.map p) (H [109,111,118,101]) (.agg (.cons (.func (.func 75) (.cons (X pc 0) .nil) .nil) (.cons (Y U 3) (.cons (K true) .nil)))) (a.new (.map (a! 19 (gX pc))))=D V.undef (a.new (.map (a! 20 (gX pc)))):=iW b rfl;have n:a! 20 (gX pc)=gX pc:=rfl;obtain⟨o,k,E,-⟩:=mkW a (.map (a! 20 (gX pc)));have W:Kn o p (.map (gX pc)):=by rw[k,b,n];exact Kn.new _ _
 have m:=S.nw E;obtain⟨i,g⟩:∃i,i=o.put pc (some (O (N tCn true) [K false,.dn,K false,iV 0,.map p])):=⟨_,rfl⟩
 have M:aS 1 (X pc 4) (.map p) o=D V.undef i:=by rw[g];exact m.st (q:=4) ⟨rfl,rfl⟩ (by simp)
 have r:aS 1 (X pc 4) (.map p) (a.new (.map (a! 20 (gX pc))))=D V.undef i:=by rw[<-k];exact M
 have l:pc≠p:=λe=>by rw[c,b]at e;have:=congrArg Pos.nat e;omega
 have G:Ch (λj=>j=pc) o i:=by rw[g];exact Ch.put _ _ rfl
 refine⟨pc,p,i,?_,by rw[g];exact m.put _,W.ch G λe=>l e.symm,l,(Q.trans E).then G λj hj e=>by rw[e,c]at hj;omega,by rw[c];omega,by rw[b];omega⟩;rw[aOC];simp only[vvB,seval,aJA,aGD,aGC,aGB,aGA,J,P,L,aQx,aS9,m0,Z,m2,m3,m4,m5,m6,m7,m8,m9,s,t,u,v,w,x,y,z,B,C,r];simp only[bV,bQ,vvB,seval,bT]
def dL.world(a:dL h F ps A pl ib cb fb vm vl I)(d:Kn h pc (O (N tCn true) [K false,.dn,K false,iV 0,.map im]))(e:Kn h im (.map (gX pc)))(b:pc≠im)(c:∀j,F j->j≠pc/\j≠im):
  World h pc im ps {acc:=A,inn:=false,only:=false,cnt:=0,vw:=none} F (λ_=>False) pl ib cb fb vm vl .dn I:=
 ⟨a,d,e,⟨rfl,λ_ q=>q⟩,b,λj f=>⟨λq=>q,c j f⟩,λ_ q=>q.elim⟩
end
end Go.Proofs.Im
namespace Go.Im
def av7:Ln.Got:=⟨1,(.cons 1 [97] .nil (.cons 1 [76,79,71,73,78] .nil (.cons 1 [117] .nil (.cons 1 [112] .nil .nil))))⟩
def aqs:Ln.Got:=⟨1,(.cons 1 [98] .nil (.cons 1 [83,69,76,69,67,84] .nil (.cons 1 [73,78,66,79,88] .nil .nil)))⟩
end Go.Im
namespace Go.Proofs.Im
def aIt:(afP Ik.flA)= [av7,aqs]:=kR
section
variable{h:Hp}{p:Pos}{only:Bool}{n:Nat}{b:Bx}
def ano{l:List Nat}(h:(l.all λy=>V! y 256)=true):∀y∈l,y<256:=λy a=>by
 have:=List.all_eq_true.1 h y a;simpa[Nat.blt_eq]using this
def aDK{n:Nat}{a b c:Int}(hn:n<100)(r:0<=a/\a<100)(hb:0<=b/\b<100)(f:0<=c/\c<100):(qJ n a b c).length<=1000/\∀x∈qJ n a b c,x<256:=by
 have j:=kQ hn;have k:=kQ (n:=a.toNat) (by omega);have m:=kQ (n:=b.toNat) (by omega);have o:=kQ (n:=c.toNat) (by omega);have one:∀(p d:List Nat),(p.all λy=>V! y 256)=true->(∀c∈d,c<256)->∀t∈ [p++d++ [93]],∀c∈t,c<256:=λp d i hd t g c f=>by
  simp only[L!]at g;subst g;rcases i!.1 f with q|q
  ·rcases i!.1 q with q|q
   ·exact ano i c q
   ·exact hd c q
  ·simp at q;omega
 have lit:∀(p:List Nat),(p.all λy=>V! y 256)=true->∀t∈ [p],∀c∈t,c<256:=λp i t g c f=>by
  simp only[L!]at g;subst g;exact ano i c f
 refine⟨by simp[qJ,lineS,dH];omega,λx e=>?_⟩;unfold qJ at e;rcases i!.1 e with q|e
 ·exact wM (lit _ (by decide)) x q
 rcases i!.1 e with q|e
 ·refine wM (λt g c f=>?_) x q;simp only[T!,List.not_mem_nil,or_false]at g;rcases g with rfl|rfl|rfl
  ·exact ano (l:= [42]) (by decide) c f
  ·exact j.2.1 c f
  ·exact ano (l:=aim) (by decide) c f
 rcases i!.1 e with q|e
 ·exact wM (lit _ (by decide)) x q
 rcases i!.1 e with q|e
 ·exact wM (one _ _ (by decide) k.2.1) x q
 rcases i!.1 e with q|e
 ·exact wM (one _ _ (by decide) m.2.1) x q
 ·exact wM (one _ _ (by decide) o.2.1) x e
end
end Go.Proofs.Im
namespace Go.Im
structure Em where
 i:Nat
 mark:Bool
 mod:Int
def mkE(e:Em):Ml:={mlF e.i with keys:=if e.mark=true then [xQ] else [],mod:=e.mod}
structure DAcc (A:Acc) (l:List Em):Prop where
 clock:0<=A.clock/\A.clock<90
 ents:(A.ents.length:Int)<=3*A.clock
 mods:∀e∈A.ents,e.mod<=A.clock
 boxes:∃nx md:Int,0<=nx/\nx<90/\A.boxes= [{id:=1,name:=je,par:=0,valid:=1,next:=nx,mod:=md}]
 mails:A.mails=l.map mkE
 ord:l.Pairwise λa b=>a.i<b.i
 few:l.length<=20
 oct:A.octets=0
def yS(e:Em):(mkE e).mem= [(1,(e.i:Int)+1)]:=rfl
def aQ0(l:List Em):Wn (l.map mkE) 1=l.map λe=>((e.i:Int)+1,mkE e):=by
 induction l with
 |nil=>rfl
 |cons e l a=>
  have:Wn ((e::l).map mkE) 1=((mkE e).mem.filter λx=>decide (x.1=1)).map (λx=>(x.2,mkE e))++Wn (l.map mkE) 1:=rfl;rw[this,a];rfl
def aa8{α:Type}{f:α->Nat}{l:List α}(i:l.Pairwise λa b=>f a<f b){t:Nat}{x:α}(d:l[t]?=some x):∀{p:α->Bool},(∀y,p y=decide (f y=f x))->l.findIdx? p=some t/\l.find? p=some x:=by
 intro p g;have h:=(g!.1 d).1;have c:=(g!.1 d).2;have e:l.findIdx? p=some t:=by
  rw[List.findIdx?_eq_some_iff_getElem];refine⟨h,by rw[g,c];simp,λj hj=>?_⟩;rw[g];have:=List.pairwise_iff_getElem.1 i j t (by omega) h hj
  rw[c]at this;simp;omega
 exact⟨e,by rw[FU,e];exact d⟩
def List.OL{α:Type}{p q:α->Bool}:∀{l:List α},(∀x∈l,p x=q x)->l.findIdx? p=l.findIdx? q
 | [],_=>rfl
 |a::l,h=>by
  rw[M!,M!,h a (by simp),List.OL λx b=>h x (by simp[b])]
def List.I9{α:Type}{p q:α->Bool}:∀{l:List α},(∀x∈l,p x=q x)->l.find? p=l.find? q
 | [],_=>rfl
 |a::l,h=>by
  rw[S!,S!,h a (by simp),List.I9 λx b=>h x (by simp[b])]
end Go.Im
namespace Go.Im.DAcc
section
variable{A:Acc}{l:List Em}
def len(d:DAcc A l):A.mails.length=l.length:=by rw[d.mails,j!]
def small(d:DAcc A l):A.Small:=by
 obtain⟨nx,md,-,-,hb⟩:=d.boxes;refine⟨by have:=d.clock;omega,by rw[hb];simp,by rw[d.len];have:=d.few;omega,by have:=d.ents;have:=d.clock;omega,λm a=>?_⟩;rw[d.mails]at a;obtain⟨e,_,rfl⟩:=z!.1 a;refine⟨?_,by rw[yS];simp⟩;unfold mkE;simp only[];split<;>simp
def logged(d:DAcc A l):A.Logged:=⟨d.mods⟩
def inn(d:DAcc A l)(e:Em):(mkE e).In A:=by
 obtain⟨nx,md,-,-,hb⟩:=d.boxes;refine⟨by rw[yS];exact BO ltI (by simp),λk x y _ b=>?_,λid a=>?_,by rw[yS];simp⟩
 ·rw[yS]at b;simp at b
 ·rw[yS]at a;simp at a;subst a;exact⟨0,by rw[hb];simp⟩
def find(d:DAcc A l){t:Nat}{e:Em}(k:l[t]?=some e):A.mails[t]?=some (mkE e)/\A.mails.findIdx? (λx=>decide (x.id=(mkE e).id))=some t/\A.mails.find? (λx=>decide (x.id=(mkE e).id))=some (mkE e):=by
 have m:A.mails.Pairwise λa b=>a.id.toNat<b.id.toNat:=by
  rw[d.mails,n!];exact d.ord.imp λ{a b} h=>by show((a.i:Int)+1).toNat<((b.i:Int)+1).toNat;omega
 have j:A.mails[t]?=some (mkE e):=by rw[d.mails,e!,k];rfl
 have c:∀x∈A.mails,0<x.id:=λx g=>by
  rw[d.mails]at g;obtain⟨y,_,rfl⟩:=z!.1 g;show 0<(y.i:Int)+1;omega
 have key:∀x∈A.mails,decide (x.id=(mkE e).id)=decide (x.id.toNat=(mkE e).id.toNat):=λx g=>by
  have n:=c x g;have o:=c _ (d! j);exact decide_eq_decide.2 ⟨λh=>by rw[h],λh=>by omega⟩
 have h:=aa8 (f:=λx:Ml=>x.id.toNat) m j (p:=λx=>decide (x.id.toNat=(mkE e).id.toNat)) (λy=>rfl);refine⟨j,?_,?_⟩
 ·rw[<-h.1];exact List.OL key
 ·rw[<-h.2];exact List.I9 key
end
end Go.Im.DAcc
namespace Go.Im
def emF(i:Nat):Em:={i:=i,mark:=false,mod:=(i:Int)+2}
def aHI:NR [xQ]=false:=by decide
end Go.Im
namespace Go.Im.DAcc
section
variable{A:Acc}{l:List Em}{t:Nat}{e:Em}
def fill{n:Nat}(hn:n<=20):DAcc (jw n) ((x! n).map emF) where
 clock:=by show 0<=(n:Int)+1/\(n:Int)+1<90;omega
 ents:=by show(((x! n).flatMap qp).length:Int)<=3*((n:Int)+1);rw[alE];omega
 mods:=(UJ n).mods
 boxes:=⟨(n:Int)+1,(n:Int)+1,by omega,by omega,rfl⟩
 mails:=by
  show(x! n).map mlF=((x! n).map emF).map mkE;rw[U!];rfl
 ord:=by rw[n!];exact List.pairwise_lt_range
 few:=by simpa using hn
 oct:=rfl
def keys(d:DAcc A l)(m:l[t]?=some e)(p:e.mark=false)(q:A.clock<80):DAcc (aa4 A t (mkE e) [xQ]) (l.set t {e with mark:=true,mod:=A.clock+1}):=by
 have g:iO (mkE e) [xQ]= []:=by
  unfold iO;have:NR (mkE e).keys=false:=by unfold mkE;rw[p];rfl
  rw[this,aHI,if_pos rfl]
 have j:(aa4 A t (mkE e) [xQ]).ents=A.ents++ [(⟨A.clock+1,2,(mkE e).id,2⟩:En)]:=by
  show A.ents++((iO (mkE e) [xQ]).map (lq (A.clock+1))++_)=_;rw[g];rfl
 have h:=(g!.1 m).1;refine⟨?_,?_,?_,?_,?_,?_,?_,d.oct⟩
 ·have:=d.clock;show 0<=A.clock+1/\A.clock+1<90;omega
 ·rw[j,y!];have:=d.ents;show((A.ents.length+1:Nat):Int)<=3*(A.clock+1);omega
 ·intro x c;rw[j,i!]at c;show x.mod<=A.clock+1;rcases c with c|c
  ·have:=d.mods x c;omega
  ·simp at c;rw[c];exact c? _
 ·obtain⟨nx,md,n,o,hb⟩:=d.boxes;refine⟨nx,md,n,o,?_⟩;show jX (A.clock+1) (iO (mkE e) [xQ]) A.boxes=_;rw[g];exact hb
 ·show A.mails.set t {mkE e with keys:= [xQ],mod:=A.clock+1}=(l.set t {e with mark:=true,mod:=A.clock+1}).map mkE;rw[d.mails,F!];rfl
 ·have hi:(l.set t {e with mark:=true,mod:=A.clock+1}).map (·.i)=l.map (·.i):=by
   rw[F!];apply A!;intro k;by_cases g:t=k
   ·subst g;rw[k! (by simpa using h),e!,m];rfl
   ·rw[v! g]
  have:=d.ord;rw[<-n! (f:=λx:Em=>x.i) (R:=λa b:Nat=>a<b)]at this⊢;rw[hi];exact this
 ·rw[r!];exact d.few
def good(d:DAcc A l)(e:Em):DGood A (mkE e) where
 small:=d.small
 logged:=d.logged
 inn:=d.inn e
 ents:=by have:=d.ents;have:=d.clock;omega
 clock:=by have:=d.clock;omega
 oct:=by rw[d.oct];omega
 text:=by show 0<1000000000;omega
def wn(d:DAcc A l):Wn A.mails 1=l.map λe=>((e.i:Int)+1,mkE e):=by rw[d.mails,aQ0]
def sorted(d:DAcc A l):(Wn A.mails 1).Pairwise λx y=>x.1<y.1:=by
 rw[d.wn,n!];exact d.ord.imp λ{a b} h=>by show((a.i:Int)+1)<((b.i:Int)+1);omega
def same(d:DAcc A l){a b:Em}(j:a∈l)(hb:b∈l)(h:a.i=b.i):a=b:=by
 obtain⟨t,k⟩:=K!.1 j;obtain⟨u,m⟩:=K!.1 hb;have g:=(aa8 (f:=λe:Em=>e.i) d.ord k (p:=λy=>decide (y.i=a.i)) (λ_=>rfl)).2;have c:=(aa8 (f:=λe:Em=>e.i) d.ord m (p:=λy=>decide (y.i=a.i)) (λy=>by rw[h])).2;rw[g]at c;exact Option.some.inj c
def aQO(d:DAcc A l):∃b,CanBox A 0 b/\b.id=1:=by
 obtain⟨nx,md,f,g,hb⟩:=d.boxes;refine⟨{id:=1,name:=je,par:=0,valid:=1,next:=nx,mod:=md},⟨d.small,?_,by rw[hb];rfl,?_,d.sorted,?_,by simp,⟨f,by show nx<100;omega⟩,by have:=d.clock;omega⟩,rfl⟩
 ·rw[hb];refine⟨by simp,λb hb=>by simp at hb;rw[hb],λb hb=>by simp at hb;rw[hb];exact⟨by simp,by show ∀c∈je,c<256;decide⟩,λk b a=>?_⟩;cases k with
  |zero=>simp at a;subst a;simp
  |succ k=>simp at a
 ·rw[hb];unfold uV;have:aaX je=je:=by unfold aaX;rw[if_pos rfl]
  rw[this];simp
 ·show(Wn A.mails 1).length<50;rw[d.wn,j!];have:=d.few;omega
def foldl_max:∀(l:List (Int×Ml)) (a:Int),a<=l.foldl (λa x=>max a x.1) a/\∀y∈l,y.1<=l.foldl (λa x=>max a x.1) a
 | [],a=>⟨c? _,λ_ h=>by cases h⟩
 |x::l,a=>by
  have h:=foldl_max l (max a x.1);rw[List.foldl_cons];refine⟨b? (Int.le_max_left _ _) h.1,λy b=>?_⟩;rcases T!.1 b with rfl|b
  ·exact b? (Int.le_max_right _ _) h.1
  ·exact h.2 y b
end
end Go.Im.DAcc
namespace Go.Im
def uQ(uid:Bool)(x:Int×Int×Ml):Int:=if uid=true then x.2.1 else x.1
def inM(l:List (Int×Int))(n:Int):Bool:=l.any λr=>decide (n>=r.1)&&decide (n<=r.2)
def XB(s:List Nat)(a:Int):Option (List (Int×Int)):=
 if 1<=a/\a<=20 then(if s= [49] then some [(1,1)] else if s= [49,58,42] then some [(1,a)] else if a<=9/\s= [48+a.toNat] then some [(a,a)] else none) else none
end Go.Im
namespace Go.Proofs.Im
section
variable{h h' g:Hp}{P:Pos->Prop}{p ir:Pos}{uid only:Bool}{v vk vs:V}{L:List V}{s:List Nat}{n:Int}
def azi{wr:Wr}{x:Int×Int×Ml}(k:Kn g ir (O wr L))(c:L[4]?=some (.bool uid)):
  Oy [X ir 0,.agg (V.ofList (msC x vk vs))] g=D (iV (uQ uid x)) (g.new (O (N 200 true) (msC x vk vs))):=by
 have K:=Kn.new g (O (N 200 true) (msC x vk vs));have b:=K.ld (q:=0) (x:=iV x.1) rfl;have e1:=K.ld (q:=1) (x:=iV x.2.1) rfl;have a:=(k.add (O (N 200 true) (msC x vk vs))).ld c;rw[arE];cases uid
 ·simp only[vvB,seval,YE,Rn,Rl,aef,V.cZ,b,a];simp only[bV,bQ,vvB,seval,bT];rfl
 ·simp only[vvB,seval,YE,Rn,Rl,aeg,V.cZ,e1,a];simp only[bV,bQ,vvB,seval,bT];rfl
def aJu{x:Int×Int}{wr:Wr}(k:Kn g p (O wr [iV n])):V7 [.agg (V.ofList (gW x)),X p 0] g=D (.bool (decide (n>=x.1)&&decide (n<=x.2))) (g.new (O (N 98 true) (gW x))):=by
 have K:=Kn.new g (O (N 98 true) (gW x));have a:=K.ld (q:=0) (x:=iV x.1) rfl;have e1:=K.ld (q:=1) (x:=iV x.2) rfl;have e2:=(k.add (O (N 98 true) (gW x))).ld (q:=0) (x:=iV n) rfl;rw[azN];by_cases b:n>=x.1
 ·simp only[vvB,seval,aml,abA,abz,V.cZ,a,e1,e2,b,decide_true,Bool.true_and];simp only[bV,bQ,vvB,seval,bT]
 ·simp only[vvB,seval,aml,abA,abz,V.cZ,a,e1,e2,b,decide_false,Bool.false_and];simp only[bV,bQ,vvB,seval,bT]
def aFo(p:Pos)(x:V)(g:Hp):dD rF (.func (.func 329) .nil (.cons (X p 0) .nil)) [x] g=V7 [x,X p 0] g:=(rfl)
def aOy{r:List (Int×Int)}(R:Rws P (flat gW) 2 h v r)(m:r.length<=1000):∃h',aiA [v,iV n] h=D (.bool (inM r n)) h'/\Nw h h':=by
 obtain⟨l,a,c,k⟩:=mkW h (O (N 3 true) [iV n]);obtain⟨j,e2,d⟩:=acG (R.nw (aJ _) c) (aJ _) (λx=>decide (n>=x.1)&&decide (n<=x.2)) (by omega) (f:=.func (.func 329) .nil (.cons (X h.next 0) .nil)) (λb cs g _ i e _=>by
  obtain rfl:cs=gW b:=e;rw[aFo,aJu (k.nw i)];exact⟨_,rfl,Nw.new _ _⟩)
 rw[aEr];refine⟨j,?_,c.trans d⟩;simp only[vvB,seval,aCF,asy,asx,<-a,e2];simp only[bV,bQ,vvB,seval,bT];rfl
def asw{I J M:Wr}{r:List (Int×Int)}{pr e:Pos}{x:Int×Int×Ml}(R:Rws P (flat gW) 2 g v r)(E:r.length<=1000)(j:Kn g e (O I [v]))(kp:Kn g pr (O J [X ir 0]))(k:Kn g ir (O M L))(C:L[4]?=some (.bool uid)):
  ∃g',BG [.agg (V.ofList (msC x vk vs)),X e 0,X pr 0] g=D (.bool (!inM r (uQ uid x))) g'/\Nw g g':=by
 obtain⟨i,c,b,G⟩:=mkW g (O (N 200 true) (msC x vk vs));have l:=G.ldN (n:=10) rfl;have m:=(kp.nw b).ld (q:=0) (x:=X ir 0) rfl;have f:=azi (vk:=vk) (vs:=vs) (x:=x) (k.nw b) C;obtain⟨Q,d,u,-⟩:=mkW i (O (N 200 true) (msC x vk vs));rw[<-d]at f;have a:=b.trans u;have t:=(j.nw a).ld (q:=0) (x:=v) rfl;have o:=(j.nw b).ld (q:=0) (x:=v) rfl;obtain⟨B,z,w⟩:=aOy (n:=uQ uid x) (R.nw (aJ _) a) E;have y:∀{k:Out},chk (λh=>aF (X e 0) h) v k 1 [i]=k:=qw R.noF o;refine⟨B,?_,a.trans w⟩;rw[ayo];simp only[vvB,seval,as2,aj3,aj2,V.cZ,<-c,l,m,f,t,y,z];simp only[bV,bQ,vvB,seval,bT]
def aFq(p q:Pos)(x:V)(g:Hp):dD jM (.func (.func 225) .nil (.cons (X p 0) (.cons (X q 0) .nil))) [x] g=BG [x,X p 0,X q 0] g:=(rfl)
def aFp(p q:Pos)(x:V)(g:Hp):dD uY (.func (.func 225) .nil (.cons (X p 0) (.cons (X q 0) .nil))) [x] g=BG [x,X p 0,X q 0] g:=(rfl)
def aGp{a:Int}{r:List (Int×Int)}(e:XB s a=some r):∃x,r= [x]/\ahK [H s,iV a] h=D (.tuple (.cons (.slice h.next 0 1 (.kn 1)) (.cons (iV 0) .nil))) (h.new (O (N 98 false) (gW x))):=by
 unfold XB at e;split at e
 ·rename_i f;split at e
  ·rename_i c;cases e;refine⟨(1,1),rfl,?_⟩;have b:Ik.Tv [H s,iV a]=some (Ik.rdV aI 1 1):=by
    show(if 1<=a/\a<=20 then _ else _)=_;rw[if_pos f,if_pos c];rfl
   show(match Ik.Tv [H s,iV a] with|some r=>Tm aI [] r.2 r.1 [] h|none=>_)=_;rw[b];rfl
  ·split at e
   ·rename_i c d;cases e;refine⟨(1,a),rfl,?_⟩;have b:Ik.Tv [H s,iV a]=some (Ik.rdV aI 1 a):=by
     show(if 1<=a/\a<=20 then _ else _)=_;rw[if_pos f,if_neg c,if_pos d];rfl
    show(match Ik.Tv [H s,iV a] with|some r=>Tm aI [] r.2 r.1 [] h|none=>_)=_;rw[b];rfl
   ·split at e
    ·rename_i c d i;cases e;refine⟨(a,a),rfl,?_⟩;have b:Ik.Tv [H s,iV a]=some (Ik.rdV aI a a):=by
      show(if 1<=a/\a<=20 then _ else _)=_;rw[if_pos f,if_neg c,if_neg d,if_pos i];rfl
     show(match Ik.Tv [H s,iV a] with|some r=>Tm aI [] r.2 r.1 [] h|none=>_)=_;rw[b];rfl
    ·cases e
 ·cases e
def aOz(h:Hp)(x:Int×Int):Rws (λj=>j=h.next) (flat gW) 2 (h.new (O (N 98 false) (gW x))) (.slice h.next 0 1 (.kn 1)) [x]:=by
 have k:=Kn.new h (O (N 98 false) (gW x));refine⟨[gW x],.cons rfl .nil,λc a=>?_,⟨rfl,.inr ⟨h.next,0,.kn 1,N 98 false,gW x,rfl,k.2,by rw[k.1];rfl,λq b=>?_⟩⟩,λ_ _ _ _ e=>?_,λj hj=>?_⟩
 ·simp at a;subst a;rfl
 ·simp at b⊢
 ·cases e;exact o! _
 ·cases hj;rfl
end
end Go.Proofs.Im
namespace Go.Im
def zi(uid:Bool)(l:List (Int×Int×Int)):Int:=if uid=true then(match l.getLast? with|some x=>x.1|none=>0) else(l.length:Int)
end Go.Im
namespace Go.Proofs.Im
section
variable{h h' g h0:Hp}{P F I J Z:Pos->Prop}{ps pl ib pv ir pc im:Pos}{cb:Cap}{fb uid only:Bool}{vm vl vv vw vk:V}{m:List Mg}{st:Sn}{L:List V}{s tx:List Nat}{w:Wds}{ks:Int×Int×List (Int×Int×Int)}{bb:Nat}{kk:Int}{r:List (Int×Int)}
def Rq.set(q:Rq bb h0 Z h pc im ps ir uid w s st L vw P F J pl ib cb fb vm vl vv I)(hv:st.vw=some ks)(hA:st.acc.Small)(hk:ks.2.2.length<=1000)(an:kk≠3)(d:XB tx (zi uid ks.2.2)=some r):
  ∃C h',NI [X ir 0,.agg (.cons (Y U kk) (.cons (H tx) (.cons vk .nil)))] h=D (.tuple (.cons C (.cons (K true) .nil))) h'/\
   yY 200 10 (λj=>h.next.nat<=j.nat/\bI C≠some j) msE h' C ((fH st.acc.mails ks.1 0 ks.2.2).filter λx=>inM r (uQ uid x))/\Nw h h'/\∀j,bI C=some j->h.next.nat<=j.nat/\j.nat<h'.next.nat:=by
 have ac:=q.wd.view;rw[hv]at ac;obtain⟨pv,vwr,m,rfl,aw,hm⟩:=ac;have ao:m.length=ks.2.2.length:=by have:=congrArg X! hm;simpa using this
 have ap:m.map (·.uid)=ks.2.2.map (·.1):=by rw[<-hm,U!];rfl
 obtain⟨h1,ak,c1,k1⟩:=mkW h (O (N 138 true) [X ir 0]);have B1:eX 138 (X ir 0) h=D (X h.next 0) h1:=by rw[ak];rfl
 obtain⟨h2,al,S,k2⟩:=mkW h1 (O (N 149 true) [Y U kk,H tx,vk]);have B2:eX 149 (.agg (.cons (Y U kk) (.cons (H tx) (.cons vk .nil)))) h1=D (X h1.next 0) h2:=by rw[al];rfl
 have n:=c1.trans S;have q2:=q.nw n;have W0:=k2.ld (q:=0) (x:=Y U kk) rfl;have eK:(kk=3)=False:=eq_false an;have K0:=(k1.nw S).ld (q:=0) (x:=X ir 0) rfl;have R0:=q2.kr.ld q2.l0;have C1:=q2.wd.con.ld (q:=1) (x:=X pv 0) rfl;obtain⟨ru,k,e3,o3,c3⟩:=af0 (aw.ch n λ_ _ q=>q) (by omega);have o:=n.trans c3;have q3:=q.nw o;have Ru:=o3.rws (aJ _);have lu:=Ru.len k;rw[j!,ao]at lu;have K3:=(k1.nw (S.trans c3)).ld (q:=0) (x:=X ir 0) rfl;have W3:=(k2.nw c3).ld (q:=1) (x:=H tx) rfl;have R4:=q3.kr.ld q3.l4;have aa:1<=zi uid ks.2.2:=by
  unfold XB at d;split at d
  ·rename_i hs;exact hs.1
  ·cases d
 obtain⟨x,rfl,e4⟩:=aGp (h:=k) d;obtain⟨B,v,c4,-⟩:=mkW k (O (N 98 false) (gW x));rw[<-v]at e4;have RG:Rws (λj=>j=k.next) (flat gW) 2 B (.slice k.next 0 1 (.kn 1)) [x]:=by rw[v];exact aOz _ _
 obtain⟨h5,am,c5,k5⟩:=mkW B (O (N 96 true) [.slice k.next 0 1 (.kn 1)]);have S5:aS 1 (X B.next 0) (.slice k.next 0 1 (.kn 1)) (B.new (O (N 96 true) [.aP]))=D V.undef h5:=by rw[am];exact YQ ⟨rfl,rfl⟩ (by decide)
 have u:=c4.trans c5;have p:=o.trans u;have q5:=q.nw p;have ad:=k1.nw ((S.trans c3).trans u);have K5:=ad.ld (q:=0) (x:=X ir 0) rfl;have E:=q5.kr.ld q5.l0;have G:=q5.kr.ld q5.l1;obtain⟨rm,h6,e6,o6,W⟩:=q5.messages hv hA hk;have n1:=c1.next;have aL:=o.next;have n2:=S.next;have aR:=u.next;have n4:=c4.next;have n5:=c5.next;have n6:=W.next;have aM:=p.next;have M:=p.trans W;have q6:=q.nw M;have af:=k5.nw W;have ae:=ad.nw W;have ay:k.next.nat<B.next.nat:=by rw[v];exact(Kn.new _ _).2
 have c:∀j,bI rm=some j->h5.next.nat<=j.nat:=λj e=>(o6.eY e).1;have hR:∀g,Ch (λj=>bI rm=some j) h6 g->Rws (λj=>j=k.next) (flat gW) 2 g (.slice k.next 0 1 (.kn 1)) [x]:=λg i=>
  (RG.nw (aJ _) (c5.trans W)).ch (aJ _) i λj hj e=>⟨e,λq=>by have:=c _ q;subst e;omega⟩
 have aE:=k5.2;have aD:=k1.2;have az:=q.kr.2;obtain⟨C,h7,e7,o7,c7,i7⟩:=apQ (f:=.func (.func 225) .nil (.cons (X B.next 0) (.cons (X h.next 0) .nil))) o6.aOT (λj pj=>pj.2) (λx'=>!inM [x] (uQ uid x')) (H! (OH _ _ _ _) hk)
  (λa cs g ha i ⟨Q,e⟩=>by
   obtain⟨av,ax,rfl,-,-⟩:=e;rw[aFq];exact asw (hR g i) (by simp) (af.ch i λe=>by have:=c _ e;omega) (ae.ch i λe=>by have:=c _ e;omega) (q6.kr.ch i λe=>by have:=c _ e;omega) q.l4)
  (λa cs g ha i ⟨Q,e⟩=>by
   obtain⟨av,ax,rfl,-,-⟩:=e;rw[aFp];exact asw (hR g i) (by simp) (af.ch i λe=>by have:=c _ e;omega) (ae.ch i λe=>by have:=c _ e;omega) (q6.kr.ch i λe=>by have:=c _ e;omega) q.l4)
 have ai:(λa:Int×Int×Ml=>!!inM [x] (uQ uid a))=λa=>inM [x] (uQ uid a):=by funext a;simp
 rw[ai]at o7;have n7:=c7.next;refine⟨C,h7,?_,?_,M.own c7 λj e=>by have:=c j e;omega,λj e=>?_⟩;rotate_left
 ·refine o7.ch dK (Nw.refl _) (λ_ _ q=>q) λj hj pj=>⟨⟨by have:=pj.1;omega,λe=>pj.2 (i7 j e)⟩,λq=>q⟩
 ·exact⟨by have:=c j (i7 j e);omega,by have:=(o6.eY (i7 j e)).2;omega⟩
 ·rw[azT];cases uid with
  |false=>
   have z:zi false ks.2.2=(ks.2.2.length:Int):=rfl;rw[z]at e4;simp(disch:=omega)only[vvB,seval,amo,abP,abO,abN,abM,abL,abK,abJ,XU,B1,B2,W0,eK,K0,R0,C1,e3,lu,K3,R4,W3,e4,oV,S5,K5,E,G,e6,e7];simp only[bV,bQ,vvB,seval,bT];rfl
  |true=>
   obtain⟨t,ht⟩:∃t,ks.2.2.length=t+1:=by
    cases hq:ks.2.2 with
    |nil=>rw[hq]at aa;simp[zi]at aa
    |cons a b=>exact⟨b.length,rfl⟩
   obtain⟨y,hy⟩:∃y,ks.2.2[t]?=some y:=⟨_,c! (by omega)⟩
   have z:zi true ks.2.2=y.1:=by
    unfold zi;rw[if_pos rfl,List.getLast?_eq_getElem?,ht,Nat.add_sub_cancel,hy]
   rw[z]at e4;have aq:(m.map (·.uid))[t]?=some y.1:=by rw[ap,e!,hy];rfl
   obtain⟨iu,qu,ag,ar,ah,-,-,-,au,-⟩:=Ru.elt aq;obtain rfl:ag=iG y.1:=ah;have l:=au k rfl 0 (iV y.1) rfl;rw[J!]at l;rw[ht]at lu;have ab:(((t+1:Nat):Int) - 1)=(t:Int):=by omega
   have aj:(((t+1:Nat):Int)>0)=True:=eq_true (by omega);simp(disch:=omega)only[vvB,seval,amo,abP,abO,abN,abM,abL,ao2,abK,abJ,XU,B1,B2,W0,eK,K0,R0,C1,e3,lu,aj,ab,ar,l,K3,R4,W3,e4,oV,S5,K5,E,G,e6,e7];simp only[bV,bQ,vvB,seval,bT];rfl
end
end Go.Proofs.Im
namespace Go.Vm
section
variable{h:Hp}
def avq{z:V}{n bt:Nat}{el:TypeId}(hn:n*bt<=140737488355328):xE el bt [z] (Y U (n:Int)) (Y U (n:Int)) h=D (.slice h.next 0 n (.kn n)) (h.new (O (N el true) (times n [z]))):=by
 show(match P! n n,P! (O! n bt) 140737488355328 with
  |true,true=>R.ok (V.slice h.next 0 n (.kn n)) (h.new (O (N el true) (times n [z])))
  |_,_=>.bad)=_
 rw[u! (o! n),show P! (O! n bt) 140737488355328=true from u! hn]
def arN(z:V):∀n:Nat,times n [z]=((List.replicate n ([]:List Nat)).map λ_=> [z]).flatten
 |0=>rfl
 |n+1=>by
  show z::times n [z]=_;rw[arN z n];rfl
end
end Go.Vm
namespace Go.Im
def aS7(b:Bool):List V:= [K b]
end Go.Im
namespace Go.Proofs.Im
section
variable{h g:Hp}{P F I:Pos->Prop}{ps pl ib:Pos}{A:Acc}{cb:Cap}{fb:Bool}{v vm vl:V}{marks:List Bool}{l:List Em}
def abn(h:Hp):yB [] h=D (K true) h:=FP rfl h
structure Dst (g:Hp) (F:Pos->Prop) (ps:Pos) (A:Acc) (l:List Em) (marks:List Bool) (pl ib:Pos) (cb:Cap) (fb:Bool) (vm vl:V) (I:Pos->Prop) (P:Pos->Prop) (v:V):Prop where
 acc:dL g F ps A pl ib cb fb vm vl I
 d:DAcc A l
 is:l.map (·.i)=x! marks.length
 ms:l.map (·.mark)=marks
 clock:A.clock<60
 row:Rws P (flat aS7) 1 g v marks
 apart:∀j,P j->¬F j
 hG:Ik.aI<=g.next.nat
end
section
variable{ps pc im:Pos}{A:Acc}
abbrev stA(A:Acc)(cnt:Int):Sn:={acc:=A,inn:=true,only:=false,cnt:=cnt,vw:=some (fC A 1)}
def Alls.one{gs:List Ln.Got}{a:Ln.Got}{st st1:Sn}{t:List Nat}(d:oU pc im ps a st t true st1)(e:gs= [a]):Alls pc im ps gs st t st1:=by
 subst e;have:=Alls.go d (.nil st1);rwa[t!]at this
end
end Go.Proofs.Im
namespace Go.Im
abbrev afp:List Nat:= [46,115,105,108,101,110,116]
abbrev qN:List Nat:= [102,108,97,103,115]
abbrev aCI(k:Int)(t:List Nat)(v:V):V:=.agg (.cons (Y U k) (.cons (H t) (.cons v .nil)))
abbrev Xz(k:Int)(t:List Nat)(v:V):List V:= [Y U k,H t,v]
def bxW(t:TypeId)(k:Int)(s:List Nat)(v:V)(h:Hp):eX t (aCI k s v) h=D (X h.next 0) (h.new (O (N t true) (Xz k s v))):=(rfl)
end Go.Im
namespace Go.Proofs.Im
section
variable{h h' g:Hp}{P:Pos->Prop}{v vk:V}{w:Wds}{x:Wd}{tx key:List Nat}{n:Nat}
def aJZ(h:Hp):Ce [H ([43]++qN++afp),H afp] h=D (.tuple (.cons (H (43::qN)) (.cons (K true) .nil))) h:=(rfl)
def aHl(h:Hp):Ce [H ([45]++qN++afp),H afp] h=D (.tuple (.cons (H (45::qN)) (.cons (K true) .nil))) h:=(rfl)
def aTl(h:Hp):pU [H [92,65,110,115,119,101,114,101,100]] h=D (.tuple (.cons (H [36,97,110,115,119,101,114,101,100]) (.cons (K true) .nil))) h:=(rfl)
def aTk(h:Hp):pU [H [92,68,101,108,101,116,101,100]] h=D (.tuple (.cons (H [36,100,101,108,101,116,101,100]) (.cons (K true) .nil))) h:=(rfl)
def aTj(h:Hp):pU [H [92,68,114,97,102,116]] h=D (.tuple (.cons (H [36,100,114,97,102,116]) (.cons (K true) .nil))) h:=(rfl)
def aTi(h:Hp):pU [H [92,70,108,97,103,103,101,100]] h=D (.tuple (.cons (H [36,102,108,97,103,103,101,100]) (.cons (K true) .nil))) h:=(rfl)
def aTh(h:Hp):pU [H [92,83,101,101,110]] h=D (.tuple (.cons (H [36,115,101,101,110]) (.cons (K true) .nil))) h:=(rfl)
def aGw{c:Nat}(u:c=43\/c=45)(p:tx.length<1000000000/\∀c∈tx,c<256)(y:foldM tx= [c]++qN++afp):
  ∃h',Xr [aCI 1 tx vk] h=D (.tuple (.cons (Y .u8 (c:Int)) (.cons (K true) (.cons (K true) .nil)))) h'/\Nw h h':=by
 obtain⟨o,k,r,kk⟩:=mkW h (O (N 149 true) (Xz 1 tx vk));have d:=bxW 149 1 tx vk h;rw[<-k]at d;obtain⟨z,b,e2,rfl,s⟩:=alB (h:=o) p.1 p.2;rw[y]at e2;have a:Nw o b:=s;have m:=kk.ld (q:=1) (x:=H tx) rfl;have l:=(kk.nw a).ld (q:=0) (x:=Y U 1) rfl;refine⟨b,?_,r.trans a⟩;rw[ayq];rcases u with rfl|rfl
 ·have f:=aJZ b;have e:∀h,jY (H (43::qN)) (Y U 0) h=D (Y .u8 ((43:Nat):Int)) h:=λh=>afC rfl;have i:((43::qN)= [102,108,97,103,115])=False:=eq_false (by decide);have j:((43::qN)= [43,102,108,97,103,115])=True:=eq_true rfl;simp(disch:=omega)only[vvB,seval,aht,X8,X7,XZ,XY,XW,XV,d,m,l,e2,f,i,j,e,J!,a?,ne_eq,not_true_eq_false,eq_self,decide_true,decide_false];simp only[bV,bQ,vvB,seval,bT];rfl
 ·have f:=aHl b;have e:∀h,jY (H (45::qN)) (Y U 0) h=D (Y .u8 ((45:Nat):Int)) h:=λh=>afC rfl;have i:((45::qN)= [102,108,97,103,115])=False:=eq_false (by decide);have j:((45::qN)= [43,102,108,97,103,115])=False:=eq_false (by decide);have t:((45::qN)= [45,102,108,97,103,115])=True:=eq_true rfl;simp(disch:=omega)only[vvB,seval,aht,X8,X7,XZ,XY,XW,aj8,XV,d,m,l,e2,f,i,j,t,e,J!,a?,ne_eq,not_true_eq_false,eq_self,decide_true,decide_false];simp only[bV,bQ,vvB,seval,bT];rfl
def aDV(t:TypeId)(s:List Nat)(h:Hp):bU t [H []] 1 [(0,1,H s)] h=D (.slice h.next 0 1 (.kn 1)) (h.new (O (N t true) (dN s))):=(rfl)
theorem aD9(t:WS P h v w)(hl:w.len=1)(h0:w.get? 0=some x)(hk:x.kind≠3)(y:∀h,pU [H x.text] h=D (.tuple (.cons (H key) (.cons (K true) .nil))) h):
  ∃r h',TM [v] h=D (.tuple (.cons r (.cons (iV 0) (.cons (K true) .nil)))) h'/\gK h.next.nat (flat dN) 9 1 h' r [key]/\Nw h h':=by
 have L:=λh=>t.len h;rw[hl]at L;rw[atT]
 suffices T:aV p! [.tmp 2,.tmp 3,.tmp 4] (λM h'=>∃r,M=.tuple (.cons r (.cons (iV 0) (.cons (K true) .nil)))/\gK h.next.nat (flat dN) 9 1 h' r [key]/\Nw h h') (ab8 (T.set (some v) (h! 0) T.nil) h) by
  obtain⟨M,h',e,r,rfl,q⟩:=T;exact⟨r,h',e,q⟩
 simp only[vvB,b!,reduceCtorEq,↓reduceIte,ab8,agV,acY,Ol,agR,L];refine Oc.then (dP (σ:=V) (n:=1) (pi:=13) (pn:=12) (pc:=14) [5,6,11] (λr=> [r,iV 0,v]) (λk r g=>Nw h g/\gK h.next.nat (flat dN) 9 1 g r ([key].take k))
  (A:=λfr g=>∃r,fr.get (h! 5)=some r/\fr.get (h! 6)=some (iV 0)/\Nw h g/\gK h.next.nat (flat dN) 9 1 g r [key]) (B:=λ_ _=>False) (s:=.aP)
  (λfr h _ k e1 e2=>by simp only[vvB,b!,reduceCtorEq,↓reduceIte,Po,e1,e2]) (λfr h k _ e1=>by simp(disch:=omega)only[vvB,b!,reduceCtorEq,↓reduceIte,Pg,e1]) (by decide) (by rw[dR];omega) (qK0) (qK0) (by simp only[Fa,vvB,b!,reduceCtorEq,↓reduceIte,and_self]) ⟨Nw.refl _,gK.nil _ _ _ _ _⟩ ?_ ?_) ?_ ?_
 ·intro k r fr g ab p C E G;obtain⟨u,m,b,-⟩:=E;obtain⟨c,o⟩:=G;obtain rfl:k=0:=by omega
  have tg:WS P g v w:=t.ch c λj _ q=>⟨q,λq=>q⟩
  obtain⟨j,q,vk,i1,i2⟩:=WS.atN tg h0;have I:∀h',aX 3 v (Y U ((0:Nat):Int)) h'=D (X j q) h':=i1;obtain⟨d,i⟩:∃d,d=g.new (O (N 149 true) (Xz x.kind x.text vk)):=⟨_,rfl⟩
  have S:aS 3 (X g.next 0) (aCI x.kind x.text vk) (g.new (O (N 149 true) [Y U 0,H [],.aP]))=D V.undef d:=by
   rw[i];exact BK (h:=g) (t:=149) (f:=true) (z:= [Y U 0,H [],.aP]) (l:=V.ofList (Xz x.kind x.text vk)) (n:=3) (V.iI _) rfl rfl
  have a:Nw g d:=by rw[i];exact Nw.new _ _
  have J:Kn d g.next (O (N 149 true) (Xz x.kind x.text vk)):=by rw[i];exact Kn.new _ _
  have W:=J.ld (q:=0) (x:=Y U x.kind) rfl;have Z:=J.ld (q:=1) (x:=H x.text) rfl;have eK:(x.kind=3)=False:=eq_false hk;have eq:=y d;have Q:=aDV 9 key d;have aa:=(c.trans a).next;obtain⟨r',g3,e3,o3,c3,-⟩:=(o.nw (aJ _) a).app (P0:=λ_=>False) (bt:=16) (x:=key) (cs:=dN key) (aJ _) (by omega) rfl rfl (λj _ q=>q.elim) (by simp);simp(disch:=omega)only[vvB,b!,reduceCtorEq,↓reduceIte,agP,agO,agN,agL,ael,u,m,b,p,I,i2,afA,S,W,Z,eK,eq,Q,e3,decide_false];refine⟨qK2 p,qK2 C,r',by simp only[Fa,vvB,b!,reduceCtorEq,↓reduceIte,m,b,and_self],(c.trans a).then c3 λj hj q=>?_,by simpa using o3⟩;have:=(o.eY q).1;omega
 ·intro r fr g E G;obtain⟨u,m,b,-⟩:=E;obtain⟨c,o⟩:=G;exact⟨r,u,m,c,o⟩
 ·rintro fr g ⟨r,u,m,c,o⟩;simp only[vvB,b!,reduceCtorEq,↓reduceIte,aej,u,m];exact aV.ret (qT0) ⟨r,rfl,o,c⟩
 ·intro fr g q;exact q.elim
end
end Go.Proofs.Im
namespace Go.Vm
section
variable{g:Hp}{P:Pos->Prop}
def Room(b:Nat)(el:TypeId)(g:Hp)(v:V)(acc:List (List Nat))(n:Nat):Prop:=
 (acc= []/\n=0/\v=.aP)\/∃i rest,v=.slice i 0 acc.length (.un 1)/\Kn g i (O (N el false) (acc.map H++rest))/\rest.length=n/\b<=i.nat
def acH(z:V):∀n:Nat,(times n [z]).length=n
 |0=>rfl
 |n+1=>by show(z::times n [z]).length=n+1;rw[l!,acH z n]
def Room.app{b n:Nat}{el:TypeId}{v x:V}{acc l:List (List Nat)}{c:List Nat->List V}(J:∀s,c s= [H s])(r:Room b el g v acc n)(R:Rws P (flat c) 1 g x l)(hl:l.length<=n):
  ∃G g',bZ el 1 16 v x g=D G g'/\Room b el g' G (acc++l) (n - l.length)/\Ch (λj=>b<=j.nat) g g':=by
 obtain⟨I,a,S,s,-,-⟩:=R;obtain rfl:=a.flat;have p:(l.map c).flatten=l.map H:=by
  have:c=λs=> [H s]:=funext J;rw[this,qo]
 rw[p]at s;cases t:l with
 |nil=>
  rcases r with⟨rfl,rfl,rfl⟩|⟨i,rest,rfl,k,u,hi⟩
  ·exact⟨.aP,g,by subst t;unfold bZ;rw[s.src];rfl,.inl ⟨rfl,rfl,rfl⟩,Ch.refl _ _⟩
  ·exact⟨_,g,by subst t;unfold bZ;rw[s.src];rfl,.inr ⟨i,rest,by rw[t!],by rw[t!];exact k,by simp[u],hi⟩,Ch.refl _ _⟩
 |cons y m=>
  rw[t]at hl;simp only[l!]at hl;rcases r with⟨rfl,rfl,rfl⟩|⟨i,rest,rfl,k,u,hi⟩
  ·omega
  ·have e:(acc.map H).length=acc.length:=j! _;have q:jo (0+acc.length*1) ((y::m).map H) (acc.map H++rest)=some ((acc++(y::m)).map H++rest.drop (m.length+1)):=by
    rw[WG (by simp;omega),G!,w!];congr 1;rw[List.take_append_of_le_length (by omega),List.take_of_length_le (by omega),j!,l!,Q!,e,q! (by omega),R!];simp[List.append_assoc]
   have B:gy (acc.length*1) (fB 0 (acc.map H++rest))=some (acc.map H):=by
    rw[w!];exact uO (λf M=>by rw[G!,List.getElem?_append_left (by omega)]) e
   obtain⟨z,o,L⟩:∃z C,rest=z::C:=by
    cases rest with
    |nil=>simp at u;omega
    |cons z C=>exact⟨z,C,rfl⟩
   have w:fB (acc.length*1) (fB 0 (acc.map H++rest))=z::o:=by
    rw[jU,jU,C!,w!,Q!,e,q! (by omega),Nat.sub_self,C!,L];rfl
   have E:W! el el=true:=I! el;refine⟨.slice i 0 (acc.length+(m.length+1)) (.un 1),g.put i (some (O (N el false) ((acc++(y::m)).map H++rest.drop (m.length+1)))),?_,.inr ⟨i,rest.drop (m.length+1),by rw[y!,l!],k.put _,by rw[List.length_drop,u,l!],hi⟩,Ch.put _ _ hi⟩;subst t;unfold bZ;rw[s.src];show dV g i _=_;rw[dW (wr:=N el false) (all:=acc.map H++rest) (by rw[k.1];rfl)];simp only[dM,I!,B,w,q]
end
end Go.Vm
namespace Go.Proofs.Im
section
variable{h h' g:Hp}{P Q:Pos->Prop}{v d vb:V}{a b:List (List Nat)}{n:Nat}{i:Pos}{wr:Wr}
def aGq(hn:n<=1000):∃r h',zX [.aP,iV (n:Int)] h=D r h'/\Room h.next.nat 9 h' r [] n/\Nw h h':=by
 rw[ahM];have j:fM 1 .aP none (some (Y U 0)) none h=D .aP h:=rfl;by_cases p:n=0
 ·subst p;have o:((0:Int)<0)=False:=eq_false (by omega);refine⟨.aP,h,?_,.inl ⟨rfl,rfl,rfl⟩,Nw.refl _⟩;simp(disch:=omega)only[vvB,seval,KC,mJ,DL,DK,DJ,qW,show XC .aP h=D (Y U 0) h from rfl,show aZ 2 .aP h=D (Y U 0) h from rfl,Int.natCast_zero,Z!,Y!,Int.reduceLT,Int.reduceGT,decide_false,o];simp only[bV,bQ,vvB,seval,bT]
 ·have l:((n:Int)<0)=False:=eq_false (by omega);have e1:((n:Int)>0)=True:=eq_true (by omega);have f:aaU 9 1 16 [H []] .aP (Y U (n:Int)) h=D (.slice h.next 0 n (.un 1)) (h.new (O (N 9 false) (times n [H []]))):=by
   obtain⟨m,rfl⟩:∃m,n=m+1:=⟨n - 1,by omega⟩
   show(match P! (O! (m+1) 16) 140737488355328 with|true=>kK 9 1 16 (m+1) (times (m+1) [H []]) h h|false=>.bad)=_;rw[u! (show O! (m+1) 16<=_ by show(m+1)*16<=_;omega),lM (by omega)]
  obtain⟨e,c⟩:∃e,e=h.new (O (N 9 false) (times n [H []])):=⟨_,rfl⟩
  rw[<-c]at f;have k:fM 1 (.slice h.next 0 n (.un 1)) none (some (Y U 0)) none e=D (.slice h.next 0 0 (.un 1)) e:=amX (w:=1) (n:=n) (m:=0) (Nat.zero_le _) e;refine⟨.slice h.next 0 0 (.un 1),e,?_,.inr ⟨h.next,times n [H []],rfl,by rw[c];exact Kn.new _ _,acH _ _,o! _⟩,by rw[c];exact Nw.new _ _⟩;simp(disch:=omega)only[vvB,seval,KC,mJ,DL,DK,DJ,RX,qW,show ∀h,XC .aP h=D (Y U 0) h from λh=>rfl,show ∀h,aZ 2 .aP h=D (Y U 0) h from λh=>rfl,Z!,Y!,l,e1,decide_true,decide_false,j,f,k];simp only[bV,bQ,vvB,seval,bT]
theorem aze(Ra:Rws P (flat dN) 1 h d a)(Rb:Rws Q (flat dN) 1 h vb b)(E:Kn h i (O wr [d,vb]))(ha:a.length<=100)(hb:b.length<=100):
  ∃r h',vT [.slice i 0 2 (.kn 2)] h=D r h'/\Room h.next.nat 9 h' r (a++b) 0/\Nw h h':=by
 have ll:∀h,aZ 2 (.slice i 0 2 (.kn 2)) h=D (Y U 2) h:=λh=>rfl;have e:∀(k:Nat) (x:V) (l:List (List Nat)),((k=0/\x=d/\l=a)\/(k=1/\x=vb/\l=b))->∀g,Nw h g->(∀g',aX 1 (.slice i 0 2 (.kn 2)) (Y U (k:Int)) g'=D (X i k) g')/\aF (X i k) g=D x g/\∃P',Rws P' (flat dN) 1 g x l:=by
  rintro k' x l (⟨rfl,rfl,rfl⟩|⟨rfl,rfl,rfl⟩) g c
  ·exact⟨λg'=>rfl,(E.nw c).ld rfl,P,Ra.nw (aJ _) c⟩
  ·exact⟨λg'=>rfl,(E.nw c).ld rfl,Q,Rb.nw (aJ _) c⟩
 rw[acA];show aV p! _ (λr h'=>Room h.next.nat 9 h' r (a++b) 0/\Nw h h') _;simp only[vvB,b!,reduceCtorEq,↓reduceIte,SS,zO,LX,LW,ll];refine Oc.then (dP (σ:=Nat) (n:=2) (pi:=11) (pn:=10) (pc:=12) [0,9,3] (λt=> [.slice i 0 2 (.kn 2),.slice i 0 2 (.kn 2),iV (t:Int)]) (λk t g=>g=h/\t=(if k=0 then 0 else if k=1 then a.length else a.length+b.length))
  (A:=λfr g=>fr.get (h! 0)=some (.slice i 0 2 (.kn 2))/\fr.get (h! 3)=some (iV ((a.length+b.length:Nat):Int))/\g=h) (B:=λ_ _=>False) (s:=0)
  (λfr h _ k e1 e2=>by simp only[vvB,b!,reduceCtorEq,↓reduceIte,VT,e1,e2]) (λfr h k _ e1=>by simp(disch:=omega)only[vvB,b!,reduceCtorEq,↓reduceIte,abV,e1]) (by decide) (by rw[dR];omega) (qK0) (qK1) (by simp only[Fa,vvB,b!,reduceCtorEq,↓reduceIte,and_self];exact⟨trivial,trivial,rfl,trivial⟩) ⟨rfl,rfl⟩ ?_ ?_) ?_ ?_
 ·intro k t fr g hk w I m o;obtain⟨f0,L,f3,-⟩:=m;obtain⟨rfl,p⟩:=o;obtain⟨x,l,hx,M,Z⟩:∃x l,((k=0/\x=d/\l=a)\/(k=1/\x=vb/\l=b))/\l.length<=100/\t+l.length=(if k+1=0 then 0 else if k+1=1 then a.length else a.length+b.length):=by
   rcases(by omega:k=0\/k=1) with rfl|rfl
   ·exact⟨d,a,.inl ⟨rfl,rfl,rfl⟩,ha,by simp at p⊢;omega⟩
   ·exact⟨vb,b,.inr ⟨rfl,rfl,rfl⟩,hb,by simp at p⊢;omega⟩
  have aa:t<=100:=by
   rw[p];split
   ·omega
   ·split<;>omega
  obtain⟨ix,ld,P',R⟩:=e k x l hx g (Nw.refl _);have lx:=R.len g;have e0:(((t:Int)+(l.length:Int))<0)=False:=eq_false (by omega);simp(disch:=omega)only[vvB,b!,reduceCtorEq,↓reduceIte,LU,LQ,LP,f0,L,f3,w,ix,ld,lx,e0,decide_false];exact⟨qK2 w,qK2 I,t+l.length,by simp only[Fa,vvB,b!,reduceCtorEq,↓reduceIte,f0,L,and_self];exact⟨trivial,trivial,rfl,trivial⟩,rfl,by simpa using Z⟩
 ·intro t fr g m o;obtain⟨f0,L,f3,-⟩:=m;obtain⟨rfl,p⟩:=o;have p:t=a.length+b.length:=by simpa using p
  rw[p]at f3;exact⟨f0,f3,rfl⟩
 ·rintro fr g ⟨f0,f3,rfl⟩;obtain⟨r1,h1,e1,ac,c1⟩:=aGq (h:=g) (n:=a.length+b.length) (by omega);simp only[vvB,b!,reduceCtorEq,↓reduceIte,LJ,JZ,f0,f3,e1,ll];refine Oc.then (dP (σ:=V) (n:=2) (pi:=27) (pn:=26) (pc:=28) [25,6] (λv=> [.slice i 0 2 (.kn 2),v]) (λk v g'=>Nw g g'/\Room g.next.nat 9 g' v (if k=0 then [] else if k=1 then a else a++b) (if k=0 then a.length+b.length else if k=1 then b.length else 0))
   (A:=λfr g'=>∃v,fr.get (h! 6)=some v/\Nw g g'/\Room g.next.nat 9 g' v (a++b) 0) (B:=λ_ _=>False) (s:=r1)
   (λfr h _ k e1 e2=>by simp only[vvB,b!,reduceCtorEq,↓reduceIte,JY,e1,e2]) (λfr h k _ e1=>by simp(disch:=omega)only[vvB,b!,reduceCtorEq,↓reduceIte,JV,e1]) (by decide) (by rw[dR];omega) (qK0) (qK1) (by simp only[Fa,vvB,b!,reduceCtorEq,↓reduceIte,and_self]) ⟨c1,ac⟩ ?_ ?_) ?_ ?_
  ·intro k v fr g' hk y J m o;obtain⟨f,z,-⟩:=m;obtain⟨c,u⟩:=o;have step:∃(x:V) (l acc:List (List Nat)) (n:Nat),((k=0/\x=d/\l=a)\/(k=1/\x=vb/\l=b))/\Room g.next.nat 9 g' v acc n/\l.length<=n/\acc++l=(if k+1=0 then [] else if k+1=1 then a else a++b)/\n - l.length=(if k+1=0 then a.length+b.length else if k+1=1 then b.length else 0):=by
    rcases(by omega:k=0\/k=1) with rfl|rfl
    ·exact⟨d,a,[],a.length+b.length,.inl ⟨rfl,rfl,rfl⟩,u,by omega,rfl,by simp⟩
    ·exact⟨vb,b,a,b.length,.inr ⟨rfl,rfl,rfl⟩,u,o! _,rfl,by simp⟩
   obtain⟨x,l,acc,n,hx,ab,S,C,W⟩:=step;obtain⟨ix,ld,P',R⟩:=e k x l hx g' c;obtain⟨v',g2,e2,G,c2⟩:=ab.app (c:=dN) (λ_=>rfl) R S;rw[C,W]at G;simp(disch:=omega)only[vvB,b!,reduceCtorEq,↓reduceIte,JX,JW,f,z,y,ix,ld,e2];exact⟨qK2 y,qK2 J,v',by simp only[Fa,vvB,b!,reduceCtorEq,↓reduceIte,f,and_self],c.then c2 λj hj q=>by omega,by simpa using G⟩
  ·intro v fr g' m o;obtain⟨f,z,-⟩:=m;obtain⟨c,u⟩:=o;exact⟨v,z,c,u⟩
  ·rintro fr g' ⟨v,z,c,u⟩;simp only[vvB,b!,reduceCtorEq,↓reduceIte,JU,z];exact aV.ret (qT0) ⟨u,c⟩
  ·intro fr g q;exact q.elim
 ·intro fr g q;exact q.elim
def Room.rws{m:Nat}{l:List (List Nat)}(r:Room m 9 h v l 0):Rws (λj=>m<=j.nat) (flat dN) 1 h v l:=by
 rcases r with⟨rfl,-,rfl⟩|⟨i,rest,rfl,k,f,hi⟩
 ·exact Rws.aP _ _ _ _
 ·have f:rest= []:=E!.1 f;subst f;have o:l.map H++ []=(l.map dN).flatten:=by rw[t!];exact(qo (c:=H) l).symm
  rw[o]at k;exact(Kn.rws (c:=dN) (sz:=1) (cp:=.un 1) k (λ_=>rfl) (λ_ _ _ _ e=>by cases e;rfl)).mono (aJ _) λj _ e=>by rw[e];exact hi
def aTS(x y:V)(c:x.cells= [x]/\ig x=true)(e:y.cells= [y]/\ig y=true)(t:TypeId)(h:Hp):bU t [.aP,.aP] 2 [(0,1,x),(1,1,y)] h=D (.slice h.next 0 2 (.kn 2)) (h.new (O (N t true) [x,y])):=by
 unfold bU;simp only[Tt,c.1,c.2,e.1,e.2];rfl
def avw{x:V}{t:TypeId}(c:x.cells= [x]/\ig x=true)(h:Hp):eX t x h=D (X h.next 0) (h.new (O (N t true) [x])):=by
 unfold eX;simp only[c.1,c.2]
def azj(s:Rws P (flat dN) 1 h d a)(k:Rws Q (flat dN) 1 h vb b)(B:a.length<=100)(hb:b.length<=100):
  ∃r h',IG [Y .u8 43,d,vb] h=D r h'/\Rws (λj=>h.next.nat<=j.nat) (flat dN) 1 h' r (a++b)/\Nw h h':=by
 obtain⟨l,m,c,C⟩:=mkW h (O (N 26 true) [vb]);have t:eX 26 vb h=D (X h.next 0) l:=by rw[m];exact avw k.cell h
 have u:=C.ld (q:=0) (x:=vb) rfl;have p:=aTS d vb s.cell k.cell 26 l;obtain⟨J,o,f,E⟩:=mkW l (O (N 26 true) [d,vb]);rw[<-o]at p;obtain⟨r,z,y,I,w⟩:=aze (s.nw (aJ _) (c.trans f)) (k.nw (aJ _) (c.trans f)) E B hb;have G:=(c.trans f).next;refine⟨r,z,?_,(Room.rws I).mono (aJ _) λj _ e=>by omega,(c.trans f).trans w⟩;rw[ahO];simp(disch:=omega)only[vvB,seval,ahu,Yu,Yt,X9,akc,t,u,p,y,decide_true];simp only[bV,bQ,vvB,seval,bT]
end
end Go.Proofs.Im
namespace Go.Vm
structure StInv (Inv:Nat->(Pos->Prop)->Hp->Prop):Prop where
 st:∀{k:Nat} {T S:Pos->Prop} {g g':Hp},Inv k T g->Ch S g g'->(∀j,T j->¬S j)->Inv k T g'
 lt:∀{k:Nat} {T:Pos->Prop} {g:Hp},Inv k T g->∀j,T j->j.nat<g.next.nat
section
variable{h g:Hp}{P:Pos->Prop}{α:Type}
def All2.ana{P:Pos->Prop}{c:α->List V}:∀l:List α,All2 (Go.Vm.flat c P h) l (l.map c)
 | []=>.nil
 |a::l=>.cons rfl (All2.ana l)
def dF.aTU{b bt:Nat}{c:α->V}{el:TypeId}{v x:V}{l:List α}{y:α}(r:dF b (λ_=>False) (flat λa=> [c a]) el 1 g v l)(R:Rws P (flat λa=> [c a]) 1 g x [y])(hb:b<=g.next.nat)(Q:(l.length+1)*bt<=140737488355328):
  ∃E g',bZ el 1 bt v x g=D E g'/\dF b (λ_=>False) (flat λa=> [c a]) el 1 g' E (l++ [y])/\Ch (λj=>bI v=some j) g g'/\∀j,bI E=some j->g.next.nat<=j.nat:=by
 obtain⟨I,a,Z,s,-,-⟩:=R;obtain rfl:=a.flat;have o:Sl g.next.nat g 1 x 1 [c y]:=s;obtain⟨G,a2,W,s2⟩:=r;obtain rfl:=a2.flat;have L:(l.map λa=> [c a]).flatten=l.map c:=qo l;rw[L]at s2;have m:∀u:Hp,u.next=g.next->dF b (λ_=>False) (flat λa=> [c a]) el 1 (u.new (O (N el false) (l.map c++ [c y]))) (.slice g.next 0 (l.length+1) (.un 1)) (l++ [y]):=λu e=>by
  refine⟨(l++ [y]).map λa=> [c a],?_,λd hd=>?_,?_,.inr ⟨g.next,by rw[y!];rfl,hb,by rw[bJ,e];omega,false,?_⟩⟩
  ·exact All2.ana _
  ·obtain⟨_,_,rfl⟩:=z!.1 hd;rfl
  ·rw[qo,j!];simp
  ·rw[<-e,dY,qo,R!];rfl
 rcases s2.is with⟨h0,rfl⟩|⟨i,rfl,J,hi,f,M⟩
 ·obtain rfl:l= []:=E!.1 h0;have w:bZ el 1 bt .aP x g=kK el 1 bt 1 [c y] g g:=o.src _;rw[w,lM (by simpa using Q)];exact⟨_,_,rfl,m g rfl,Ch.new _ _ _,λj e=>by cases e;exact o! _⟩
 ·have B:(l.map c).length=l.length:=j! _;have w:bZ el 1 bt (.slice i 0 l.length (.un 1)) x g=kK el 1 bt (l.length+1) (l.map c++ [c y]) g (g.put i none):=by
   have e1:bZ el 1 bt (.slice i 0 l.length (.un 1)) x g=dV g i λwr cs=>fK (l.length+(0+1)) λk=>(match wr,W! 1 1 with
     |N t f,true=>(match W! t el with
      |true=>(match gy (l.length*1) (fB 0 cs) with
       |none=>R.bad
       |some old=>(match fB (l.length*1) (fB 0 cs) with
        | []=>kK el 1 bt k (old++ [c y]) g (g.put i none)
        |_::_=>(match jo (0+l.length*1) [c y] cs with
         |some p=>D (.slice i 0 k (.un 1)) (g.put i (some (O (N t f) p)))
         |none=>.bad)))
      |false=>.bad)
     | .ro,true=>aDY 1 bt i 0 l.length k [c y] cs g
     |_,_=>.bad):=o.src _
   rw[e1,dW (wr:=N el f) (all:=l.map c) (by rw[M];rfl)];have C:gy (l.length*1) (fB 0 (l.map c))=some (l.map c):=by
    rw[w!];exact uO (λf _=>by rw[G!]) B
   have z:fB (l.length*1) (fB 0 (l.map c))= []:=by
    rw[jU,jU,C!,w!,q! (by omega)]
   simp only[dM,I!,C,z]
  rw[w,lM (by omega)];refine⟨_,_,rfl,m (g.put i none) (jQ _ _ _),?_,λj e=>by cases e;exact o! _⟩;exact(Ch.put (S:=λj=>bI (V.slice i 0 l.length (.un 1))=some j) g none rfl).trans (Ch.new (λ_=>False) _ _) λ_ _ q=>q.elim
end
end Go.Vm
namespace Go.Proofs.Im
section
variable{g:Hp}{limit:Bool}{n:Int}
def wo(limit:Bool)(n:Int)(x:Int×Int×Ml):Bool:=limit&&decide (x.2.2.mod>n)
def ay0(a b c d:Pos)(x:V)(g:Hp):dD jM (.func (.func 156) .nil (.cons (X a 0) (.cons (X b 0) (.cons (X c 0) (.cons (X d 0) .nil))))) [x] g=yU [x,X a 0,X b 0,X c 0,X d 0] g:=(rfl)
end
end Go.Proofs.Im
namespace Go.Im
inductive Goes (R:Acc->Int×Int×Ml->Acc->Prop):Acc->List (Int×Int×Ml)->Acc->Prop
 |nil (A:Acc):Goes R A [] A
 |cons {A B C:Acc} {x:Int×Int×Ml} {l:List (Int×Int×Ml)}:R A x B->Goes R B l C->Goes R A (x::l) C
end Go.Im
namespace Go.Proofs.Im
section
variable{h h' g:Hp}{P F I J M Q:Pos->Prop}{ps pl ib p ir pc qs pl2 o:Pos}{A B C:Acc}{cb d:Cap}{fb w only:Bool}{v vm vl E G f:V}{l:List (Int×Int×Ml)}{L:List V}{kw:List (List Nat)}{k:Nat}{m:Ml}{x:Int×Int×Ml}{cs:List V}
def aEa{R:Acc->Int×Int×Ml->Acc->Prop}(a:dL h F ps A pl ib cb fb vm vl I)(hA:A.Small)(r:Rws P msE 10 h v l)(hn:l.length<=1000)(ds:Goes R A l C)(au:C.Small){wr:Wr}(kr:Kn h ir (O wr L))(am:L[1]?=some (X ps 0))
  (hf:∀(B C':Acc) (a:Int×Int×Ml) (cs:List V) (g:Hp) (qs pl2 o:Pos) (J M:Pos->Prop) (d:Cap) (w:Bool) (E G:V),a∈l->R B a C'->dL g J qs B pl2 o d w E G M->Nw h g->(∀j,J j->h.next.nat<=j.nat)->(∃Q,msE Q g a cs)->
   ∃g3 F3 aj ai I3,dD ahj f [X qs 0,.agg (V.ofList cs)] g=D (iV 0) g3/\dL g3 F3 qs C' pl2 o d w aj ai I3/\Ch J g g3/\∀j,F3 j->J j\/g.next.nat<=j.nat):
  ∃h' F' Z W y S ab aa I',Xu [X ir 0,v,f] h=D (iV 0) h'/\dL h' F' ps C Z W y S ab aa I'/\Ch (λj=>j=ps) h h'/\∀j,F' j->j=ps\/h.next.nat<=j.nat:=by
 obtain⟨h1,qs,F1,ax,aw,ao,ar,az,ay,I1,e1,b1,c1,f1⟩:=asv a hA;have R0:=kr.ld am;have n1:=c1.next;rw[ayt]
 suffices T:aV p! [.tmp 6] (λr h'=>r=iV 0/\∃F' Z W y S ab aa I',dL h' F' ps C Z W y S ab aa I'/\Ch (λj=>j=ps) h h'/\∀j,F' j->j=ps\/h.next.nat<=j.nat)
   (ahw (T.set (some f) (h! 2) (T.set (some v) (h! 1) (T.set (some (X ir 0)) (h! 0) T.nil))) h) by
  obtain⟨r,h',e,rfl,F',Z,W,y,S,ab,aa,I',q⟩:=T;exact⟨h',F',Z,W,y,S,ab,aa,I',e,q⟩
 simp only[vvB,seval,ahw,Ol,aks,akr,R0,e1,r.len];refine Oc.then (dP (σ:=Unit) (n:=l.length) (pi:=18) (pn:=17) (pc:=19) [0,1,2,7,16] (λ_=> [X ir 0,v,f,X qs 0,v]) (λk _ g=>Nw h g/\∃B J pl2 o d w E G M,dL g J qs B pl2 o d w E G M/\(∀j,J j->h.next.nat<=j.nat)/\Goes R B (l.drop k) C)
  (A:=λfr g=>fr.get (h! 0)=some (X ir 0)/\fr.get (h! 7)=some (X qs 0)/\Nw h g/\∃J pl2 o d w E G M,dL g J qs C pl2 o d w E G M) (B:=λfr g=>False) (s:=())
  (λfr h _ k e1 e2=>by simp only[vvB,seval,adk,e1,e2]) (λfr h k _ e1=>by simp(disch:=omega)only[vvB,seval,adf,e1]) (by decide) (by rw[dR];omega) (qK0) (qK0) (by simp only[Fa,vvB,seval,and_self]) ⟨c1,A,F1,ax,aw,ao,ar,az,ay,I1,b1,f1,by simpa using ds⟩ ?_ ?_) ?_ ?_
 ·intro k _ fr g hk al aq fa hI;obtain⟨f0,ak,f2,f7,af,-⟩:=fa;obtain⟨c,B,J,pl2,o,d,w,E,G,M,b,ad,ac⟩:=hI;obtain⟨x,hx⟩:∃x,l[k]?=some x:=⟨_,c! hk⟩
  have av:l.drop k=x::l.drop (k+1):=by rw[List.drop_eq_getElem_cons hk];rw[c! hk]at hx;cases hx;rfl
  rw[av]at ac;obtain⟨i,q,cs,e2,ex,an,-,-,-,e3⟩:=(r.nw dK c).elt hx;have ap:=e3 g rfl;obtain⟨g2,ag⟩:∃g2,g2=g.new (O (N 200 true) cs):=⟨_,rfl⟩
  have S2:aS 10 (X g.next 0) (.agg (V.ofList cs)) (g.new (O (N 200 true) zMs))=D V.undef g2:=by
   rw[ag];have:=BK (h:=g) (t:=200) (f:=true) (z:=zMs) (l:=V.ofList cs) (n:=10) (V.iI _) (by rw[V.cZ];exact an) rfl;rw[V.cZ]at this;exact this
  have c2:Nw g g2:=by rw[ag];exact Nw.new _ _
  have k2:Kn g2 g.next (O (N 200 true) cs):=by rw[ag];exact Kn.new _ _
  have N2:=k2.ldN an;have ae:=c.trans c2;cases ac with
  |cons h1 ah=>
   obtain⟨g3,F3,aj,ai,I3,e4,b3,c3,f3⟩:=hf _ _ x cs g2 qs pl2 o J M d w E G (d! hx) h1 (b.nw c2) ae ad ⟨_,dK ex c2 λj _ q=>⟨q,λq=>q⟩⟩;have n2:=ae.next;simp(disch:=omega)only[vvB,seval,akp,ako,akn,f0,f2,f7,af,al,e2,ap,S2,N2,e4];refine⟨qK2 al,qK2 aq,(),by simp only[Fa,vvB,seval,f0,ak,f2,f7,af,and_self],ae.then c3 λj hj q=>by have:=ad j q;omega,_,F3,pl2,o,d,w,aj,ai,I3,b3,λj q=>(f3 j q).elim (ad j) λl=>by omega,ah⟩
 ·intro _ fr g fa hI;obtain⟨f0,ak,f2,f7,af,-⟩:=fa;obtain⟨c,B,J,pl2,o,d,w,E,G,M,b,ad,ac⟩:=hI;rw[List.drop_length]at ac;cases ac;exact⟨f0,f7,c,J,pl2,o,d,w,E,G,M,b⟩
 ·rintro fr g ⟨f0,f7,c,J,pl2,o,d,w,E,G,M,b⟩;have R1:=(kr.nw c).ld am;obtain⟨u,g2,F',Z,W,y,S,ab,aa,I',e5,a5,c5,f5⟩:=aJs (a.nw c) b au;have hn:=c.next;simp only[vvB,seval,akl,Ol,f0,f7,R1,e5];exact aV.ret (qT0) ⟨rfl,F',Z,W,y,S,ab,aa,I',a5,c.ch.trans c5 λ_ _ q=>q,λj q=>(f5 j q).imp id λl=>by omega⟩
 ·intro fr g q;exact q.elim
structure KGood (A:Acc) (kw:List (List Nat)) (x:Int×Int×Ml) (k:Nat) (m:Ml):Prop where
 small:A.Small
 logged:A.Logged
 at_:A.mails[k]?=some m
 find:A.mails.findIdx? (λy=>decide (y.id=m.id))=some k
 id:m.id=x.2.2.id
 inn:m.In A
 right:∀s∈x.2.2.keys++kw,EC s=true
 one:(x.2.2.keys++kw).length<=1
 ne:x.2.2.keys++kw≠m.keys
 ents:A.ents.length<=8000
 clock:A.clock<900000
def aDN(p q:Pos)(s x:V)(g:Hp):dD ahj (.func (.func 158) .nil (.cons (X p 0) (.cons (X q 0) .nil))) [s,x] g=Fp [s,x,X p 0,X q 0] g:=(rfl)
end
end Go.Proofs.Im
namespace Go.Im
def pW(now l:List (Int×Int×Ml)):List (Int×Int×Ml):=l.filterMap λx=>now.find? λy=>decide (y.1=x.1)
def ayT{now l:List (Int×Int×Ml)}{k:Nat}{x y:Int×Int×Ml}(b:l[k]?=some x)(c:(now.find? λy=>decide (y.1=x.1))=some y):pW now (l.take (k+1))=pW now (l.take k)++ [y]:=by
 unfold pW;rw[Go.Vm.take_snoc b,List.filterMap_append,List.filterMap_cons,c,List.filterMap_nil]
end Go.Im
namespace Go.Proofs.Im
section
variable{h h' g h0:Hp}{P d F I J Z:Pos->Prop}{ps pl ib p ir pc im a:Pos}{A B:Acc}{cb:Cap}{fb uid only:Bool}{v vm vl vv vw vk vs:V}{l:List (Int×Int×Ml)}{L:List V}{s:List Nat}{w:Wds}{st:Sn}{bb:Nat}{ks:Int×Int×List (Int×Int×Int)}{x y:Int×Int×Ml}
def azk{wr:Wr}{cs:List V}(k:Kn g a (O wr cs))(b:cs[0]?=some (iV x.1)):Fz [.agg (V.ofList (msC y vk vs)),X a 0] g=D (K (decide (y.1=x.1))) (g.new (O (N 200 true) (msC y vk vs))):=by
 have e1:=(Kn.new g (O (N 200 true) (msC y vk vs))).ld (q:=0) (x:=iV y.1) rfl;have e2:=(k.add (O (N 200 true) (msC y vk vs))).ld b;rw[arF];simp only[vvB,seval,ak2,aei,aeh,V.cZ,e1,e2];simp only[bV,bQ,vvB,seval,bT]
def aDS(p:Pos)(x:V)(g:Hp):dD jM (.func (.func 250) .nil (.cons (X p 0) .nil)) [x] g=Fz [x,X p 0] g:=(rfl)
def Rq.fresh(q:Rq bb h0 Z h pc im ps ir uid w s st L vw P F J pl ib cb fb vm vl vv I)(hv:st.vw=some ks)(hA:st.acc.Small)(hk:ks.2.2.length<=1000)(r:Rws d msE 10 h v l)(hl:l.length<=1000)
  (C:∀x∈l,∃y,((fH st.acc.mails ks.1 0 ks.2.2).find? λy=>decide (y.1=x.1))=some y):
  ∃rv h',Cj [X ir 0,v] h=D rv h'/\gK h.next.nat msE 200 10 h' rv (pW (fH st.acc.mails ks.1 0 ks.2.2) l)/\Nw h h':=by
 obtain⟨now,E⟩:∃now,now=fH st.acc.mails ks.1 0 ks.2.2:=⟨_,rfl⟩
 obtain⟨rm,u,e1,o1,c1⟩:=q.messages hv hA hk;rw[<-E]at o1 C⊢;have ar:now.length<=1000:=by rw[E];exact H! (OH _ _ _ _) hk
 have R:=(o1.rws dK).mono (P':=λj=>h.next.nat<=j.nat/\j.nat<u.next.nat) dK λj hj q=>⟨q,hj⟩
 have R0:=q.kr.ld q.l0;have R1:=q.kr.ld q.l1;have n1:=c1.next;rw[atS];show aV p! _ (λr h'=>gK h.next.nat msE 200 10 h' r (pW now l)/\Nw h h') _;simp only[vvB,seval,apg,mJ,agI,adq,agG,R0,R1,e1,r.len];refine Oc.then (dP (σ:=V) (n:=l.length) (pi:=21) (pn:=20) (pc:=22) [5,6,19] (λo=> [rm,o,v]) (λk o g=>Nw u g/\dF u.next.nat (λj=>h.next.nat<=j.nat/\j.nat<u.next.nat) msE 200 10 g o (pW now (l.take k)))
  (A:=λfr g=>∃o,fr.get (h! 6)=some o/\Nw u g/\dF u.next.nat (λj=>h.next.nat<=j.nat/\j.nat<u.next.nat) msE 200 10 g o (pW now l)) (B:=λfr g=>False) (s:=.aP)
  (λfr h _ k e1 e2=>by simp only[vvB,seval,agF,e1,e2]) (λfr h k _ e1=>by simp(disch:=omega)only[vvB,seval,agB,e1]) (by decide) (by rw[dR];omega) (qK0) (qK0) (by simp only[Fa,vvB,seval,and_self]) ⟨Nw.refl _,dF.nil _ _ _ _ _ _⟩ ?_ ?_) ?_ ?_
 ·intro k o fr g ak ab ah fa hI;obtain⟨f5,f6,Q,-⟩:=fa;obtain⟨c,own⟩:=hI;obtain⟨x,hx⟩:∃x,l[k]?=some x:=⟨_,c! ak⟩
  obtain⟨y,hy⟩:=C x (d! hx);obtain⟨i,qq,cs,e2,ex,ai,-,-,-,e3⟩:=(r.nw dK (c1.trans c)).elt hx;have ag:=e3 g rfl;obtain⟨xk,xs,aj,-,-⟩:=ex;obtain⟨g2,S⟩:∃g2,g2=g.new (O (N 200 true) cs):=⟨_,rfl⟩
  have S2:aS 10 (X g.next 0) (.agg (V.ofList cs)) (g.new (O (N 200 true) zMs))=D V.undef g2:=by
   rw[S];have:=BK (h:=g) (t:=200) (f:=true) (z:=zMs) (l:=V.ofList cs) (n:=10) (V.iI _) (by rw[V.cZ];exact ai) rfl;rw[V.cZ]at this;exact this
  have c2:Nw g g2:=by rw[S];exact Nw.new _ _
  have k2:Kn g2 g.next (O (N 200 true) cs):=by rw[S];exact Kn.new _ _
  obtain⟨g3,e4,c3⟩:=yZ (R.nw dK (c.trans c2)) dK (λy=>decide (y.1=x.1)) (by omega) (f:=.func (.func 250) .nil (.cons (X g.next 0) .nil)) (λb ap g' _ cg e _=>by
   obtain⟨vk,vm,rfl,-,-⟩:=e;rw[aDS,azk (x:=x) (k2.nw cg) (by rw[aj];rfl)];exact⟨_,rfl,Nw.new _ _⟩)
  have m:=FU (f:=λy:Int×Int×Ml=>decide (y.1=x.1)) (l:=now);rw[hy]at m;cases ad:now.findIdx? (λy=>decide (y.1=x.1)) with
  |none=>rw[ad]at m;cases m
  |some t=>
   rw[ad]at m e4;simp only[fE]at e4;have al:now[t]?=some y:=m.symm;have G:=(c.trans c2).trans c3;obtain⟨i2,q2,M,am,aa,ac,-,-,-,ae⟩:=(R.nw dK G).elt al;have W:=ae g3 rfl;have hB:bU 200 zMs 1 [(0,10,.agg (V.ofList M))] g3=D (.slice g3.next 0 1 (.kn 1)) (g3.new (O (N 200 true) M)):=by
    obtain⟨k2,s2,rfl,-,-⟩:=aa;rfl
   have aq:=G.next;have an:=c.next;have ao:(pW now (l.take k)).length<=1000:=by
    unfold pW;have u:=D! (λx:Int×Int×Ml=>now.find? λy=>decide (y.1=x.1)) (l.take k);rw[List.length_take]at u;omega
   obtain⟨o',g4,e5,af,c5,-,-⟩:=(own.nw dK (c2.trans c3)).app1 (bt:=120) (x:=y) (cs:=M) (P':=λj=>h.next.nat<=j.nat/\j.nat<u.next.nat) dK (by omega) ac (λ_ _ q=>q) aa (λj _ q e=>by have:=(own.eY e).1;omega) (by omega);simp(disch:=omega)only[vvB,seval,agE,agD,agC,f5,f6,Q,ab,e2,ag,S2,e4,am,W,hB,e5];refine⟨qK2 ab,qK2 ah,o',by simp only[Fa,vvB,seval,f5,Q,and_self],G.own c5 λj e=>(own.eY e).1,?_⟩;rw[ayT hx hy];exact af
 ·intro o fr g fa hI;obtain⟨f5,f6,Q,-⟩:=fa;obtain⟨c,own⟩:=hI;rw[B!]at own;exact⟨o,f6,c,own⟩
 ·rintro fr g ⟨o,f6,c,own⟩;simp only[vvB,seval,agA,f6];exact aV.ret (r:=o) (qT0) ⟨own.wide dK (by omega) λj hj q=>⟨q.1,λe=>by have:=(own.eY e).1;omega⟩,c1.trans c⟩
 ·intro fr g q;exact q.elim
end
end Go.Proofs.Im
namespace Go.Im
def VwR.tell{tV tM tA:TypeId}{h:Hp}{J:Pos->Prop}{pv:Pos}{box had:Int}{l:List Mg}{vv:V}{t:Nat}{x:Mg}(a:VwR tV tM tA h J pv box had l vv)(s:l[t]?=some x)(n:Int):
  VwR tV tM tA (h.put x.at_ (some (O (N tA true) [iV n]))) J pv box had (l.set t {x with told:=n}) vv:=by
 have c:Ch (λj=>j=x.at_) h (h.put x.at_ (some (O (N tA true) [iV n]))):=Ch.put _ _ rfl;have B:=d! s;have G:=(g!.1 s).1;have same:∀{L:Type} (f:Mg->L),f {x with told:=n}=f x->(l.set t {x with told:=n}).map f=l.map f:=λf e=>by
  apply A!;intro k;rw[e!,e!];by_cases o:t=k
  ·subst o;rw[k! G,s];simp[e]
  ·rw[v! o]
 have v:(l.set t {x with told:=n}).map mgC=l.map mgC:=same mgC rfl;have p:(l.set t {x with told:=n}).map (·.at_)=l.map (·.at_):=same (·.at_) rfl;have mem:∀y∈l.set t {x with told:=n},∃z∈l,z.at_=y.at_:=λy d=>by
  have:y.at_∈l.map (·.at_):=by rw[<-p];exact List.mem_map_of_mem d
  obtain⟨z,u,e⟩:=z!.1 this;exact⟨z,u,e⟩
 have r:=a.sep x B;refine⟨a.vw.ch c λe=>r.1 e.symm,?_,λy d=>?_,by rw[p];exact a.nd,λy d=>?_,a.nv,⟨a.foot.1,a.foot.2.1,λy d=>?_⟩,λj q=>by rw[jQ];exact a.lt j q⟩
 ·rcases a.row with⟨rfl,-⟩|⟨i,f,rest,e,k⟩
  ·simp at s
  ·refine .inr ⟨i,f,rest,by rw[r!];exact e,?_⟩;rw[v];exact k.ch c λq=>r.2 (by rw[e,<-q];rfl)
 ·obtain⟨k,o,e⟩:=List.mem_iff_getElem.1 d;rw[r!]at o;by_cases b:t=k
  ·subst b;rw[List.getElem_set_self]at e;subst e;exact(a.told x B).put _
  ·rw[List.getElem_set_ne b]at e;have w:y∈l:=by rw[<-e];exact List.getElem_mem o
   refine(a.told y w).ch c λq=>b ?_;have C:(l.map (·.at_))[t]?=some x.at_:=by rw[e!,s];rfl
   have E:(l.map (·.at_))[k]?=some x.at_:=by rw[e!,c! o,e];exact congrArg some q
   exact afF a.nd C E
 ·obtain⟨z,u,e⟩:=mem y d;rw[<-e];exact a.sep z u
 ·obtain⟨z,u,e⟩:=mem y d;rw[<-e];exact a.foot.2.2 z u
def FH(x:Mg)(now:List (Int×Ml)):Int:=now.foldl (λa y=>if y.1=x.uid/\y.2.id=x.id then y.2.mod else a) x.told
end Go.Im
namespace Go.Proofs.Im
section
variable{h h' g:Hp}{J F I:Pos->Prop}{ps pl ib pv:Pos}{A:Acc}{cb:Cap}{fb:Bool}{vm vl vw:V}{t:Nat}{m:List Mg}{x:Mg}{box had:Int}
def aFx(a:dL h F ps A pl ib cb fb vm vl I)(hA:A.Small)(vk:VwK h J pv box had m vw)(hm:m.length<=1000)(hs:(Wn A.mails box).Pairwise λx y=>x.1<y.1)(ag:(Wn A.mails box).length<50)(hx:m[t]?=some x):
  ∃u h',BA [X pv 0,X ps 0,iV ((t:Int)+1)] h=D u h'/\VwK h' J pv box had (m.set t {x with told:=FH x (Wn A.mails box)}) vw/\Ch (λj=>j=x.at_) h h':=by
 have ht:=(g!.1 hx).1;have ai:=d! hx;have V1:=vk.vw.ld (q:=1) (x:=vw) rfl;have V0:=λ{g:Hp} (k:VwK g J pv box had m vw)=>k.vw.ld (q:=0) (x:=iV box) rfl;have R:=vk.rws;have ll:=λh=>R.len h;obtain⟨i,q,cs,ix,ex,an,-,-,-,ak⟩:=R.elt hx;obtain rfl:cs=mgC x:=ex;have ac:=ak h rfl;obtain⟨E,ah,c1,k1⟩:=mkW h (O (N 248 true) (mgC x));have S1:=mkT 3 [Y U 0,Y U 0,.dn] ah;have ae:=vk.ch c1 λ_ _ q=>q;have B1:=V0 ae;obtain⟨r,h2,e2,o2,c2⟩:=XH (a.nw c1) hA hs ag;have am:=ae.ch c2 λ_ _ q=>q;have k2:=k1.nw c2;have R2:=(o2.rws dQ).mono (P':=λj=>E.next.nat<=j.nat) dQ λj _ q=>q;have l2:=λh=>o2.len h;have n1:=c1.next;have n2:=c2.next;have ap:=k1.2;have ab:=vk.lt _ (vk.foot.2.2 x ai);have e1:(((t:Int)+1)<1)=False:=eq_false (by omega);have e3:(((t:Int)+1)>(m.length:Int))=False:=eq_false (by omega);have e4:((t:Int)+1 - 1)=(t:Int):=by omega
 rw[ayc]
 suffices T:aV p! [] (λ_ h'=>VwK h' J pv box had (m.set t {x with told:=FH x (Wn A.mails box)}) vw/\Ch (λj=>j=x.at_) h h') (ahm (T.set (some (iV ((t:Int)+1))) (h! 2) (T.set (some (X ps 0)) (h! 1) (T.set (some (X pv 0)) (h! 0) T.nil))) h) by
  obtain⟨r,h',e,q⟩:=T;exact⟨r,h',e,q⟩
 simp(disch:=omega)only[vvB,seval,ahm,aji,ajh,ajg,fG,V1,ll,e1,e3,e4,ix,ac,oV,S1,B1,e2,l2,decide_false];refine Oc.out (Q:=λo=>aV p! [] (λ_ h'=>VwK h' J pv box had (m.set t {x with told:=FH x (Wn A.mails box)}) vw/\Ch (λj=>j=x.at_) h h') o) (dP (σ:=Unit) (n:=(Wn A.mails box).length) (pi:=39) (pn:=38) (pc:=40) [6,37] (λ_=> [X h.next 0,r]) (λk _ g=>VwK g J pv box had (m.set t {x with told:=FH x ((Wn A.mails box).take k)}) vw/\Ch (λj=>j=x.at_) h g/\Ch (λj=>j=x.at_) h2 g)
  (A:=λfr g=>VwK g J pv box had (m.set t {x with told:=FH x (Wn A.mails box)}) vw/\Ch (λj=>j=x.at_) h g) (B:=λfr g=>False) (s:=())
  (λfr h _ k e1 e2=>by simp only[vvB,seval,ajf,e1,e2]) (λfr h k _ e1=>by simp(disch:=omega)only[vvB,seval,ajd,e1]) (by decide) (by rw[dR];omega) (qK0) (qK0) (by simp only[Fa,vvB,seval,and_self]) ⟨?_,(c1.trans c2).ch,Ch.refl _ _⟩ ?_ ?_) ?_ ?_
 ·have:m.set t {x with told:=FH x ((Wn A.mails box).take 0)}=m:=by
   show m.set t x=m;apply A!;intro k;by_cases hk:t=k
   ·subst hk;rw[k! ht,hx]
   ·rw[v! hk]
  rw[this];exact am
 ·intro k _ fr g hk d C fa hI;obtain⟨M,c,-⟩:=fa;obtain⟨S,z,f⟩:=hI;obtain⟨y,hy⟩:∃y,(Wn A.mails box)[k]?=some y:=⟨_,c! hk⟩
  have Rg:=R2.ch (P':=λj=>E.next.nat<=j.nat) dQ f λj _ q=>⟨q,λe=>by rw[e]at q;omega⟩
  obtain⟨iy,qy,cy,L,af,ao,-,-,-,al⟩:=Rg.elt hy;have l:=al g rfl;obtain⟨yk,ys,rfl,-,-⟩:=af;obtain⟨P,Z,-,kg⟩:=mkW g (O (N 250 true) (thC y yk ys));have S2:=mkT 9 zTh Z;have b:Nw g P:=by rw[Z];exact Nw.new _ _
  have kx:Kn P h.next (O (N 248 true) (mgC x)):=(k2.ch f λe=>by rw[<-e]at ab;omega).nw b;have Y0:=kg.ld (q:=0) (x:=iV y.1) rfl;have Y1:=kg.ld (q:=1) (x:=iV y.2.id) rfl;have Y7:=kg.ld (q:=7) (x:=iV y.2.mod) rfl;have X0:=kx.ld (q:=0) (x:=iV x.uid) rfl;have X1:=kx.ld (q:=1) (x:=iV x.id) rfl;have X2:=kx.ld (q:=2) (x:=X x.at_ 0) rfl;have v:=S.ch b λ_ _ q=>q;have G:FH x ((Wn A.mails box).take (k+1))=(if y.1=x.uid/\y.2.id=x.id then y.2.mod else FH x ((Wn A.mails box).take k)):=by
   unfold FH;rw[Go.Vm.take_snoc hy,N!];rfl
  by_cases E:y.1=x.uid
  ·have b1:(y.1=x.uid)=True:=eq_true E;by_cases p:y.2.id=x.id
   ·have b2:(y.2.id=x.id)=True:=eq_true p;obtain⟨x',aa,w⟩:∃x',(m.set t {x with told:=FH x ((Wn A.mails box).take k)})[t]?=some x'/\x'={x with told:=FH x ((Wn A.mails box).take k)}:=⟨_,k! ht,rfl⟩
    have aj:=v.told x' (d! aa);have W:x'.at_=x.at_:=by rw[w]
    obtain⟨u,eS⟩:=CG (n:=y.2.mod) aj (q:=0) (by show 0<1;omega);rw[W]at eS;have eS:kE [X x.at_ 0,iV y.2.mod] P=D u (P.put x.at_ (some (O (N 75 true) [iV y.2.mod]))):=eS;have ad:=v.tell aa y.2.mod;rw[W,List.set_set,w]at ad;simp(disch:=omega)only[vvB,seval,NY,NW,aje,M,c,d,L,l,oV,S2,Y0,X0,b1,Y1,X1,b2,X2,Y7,eS,decide_true];have c3:Ch (λj=>j=x.at_) P (P.put x.at_ (some (O (N 75 true) [iV y.2.mod]))):=Ch.put _ _ rfl;refine⟨qK2 d,qK2 C,(),by simp only[Fa,vvB,seval,M,c,and_self],?_,(z.nw b).trans c3 λ_ _ q=>q,(f.nw b).trans c3 λ_ _ q=>q⟩;rw[G,if_pos ⟨E,p⟩];exact ad
   ·have b2:(y.2.id=x.id)=False:=eq_false p;simp(disch:=omega)only[vvB,seval,NY,NW,M,c,d,L,l,oV,S2,Y0,X0,b1,Y1,X1,b2,decide_true,decide_false];refine⟨qK2 d,qK2 C,(),by simp only[Fa,vvB,seval,M,c,and_self],?_,z.nw b,f.nw b⟩;rw[G,if_neg λe=>p e.2];exact v
  ·have b1:(y.1=x.uid)=False:=eq_false E;simp(disch:=omega)only[vvB,seval,NY,NW,M,c,d,L,l,oV,S2,Y0,X0,b1,decide_false];refine⟨qK2 d,qK2 C,(),by simp only[Fa,vvB,seval,M,c,and_self],?_,z.nw b,f.nw b⟩;rw[G,if_neg λe=>E e.1];exact v
 ·intro _ fr g fa hI;obtain⟨S,z,-⟩:=hI;rw[B!]at S;exact⟨S,z⟩
 ·rintro fr g ⟨S,z⟩;exact aV.nor (qT0) ⟨S,z⟩
 ·intro fr g q;exact q.elim
end
end Go.Proofs.Im
namespace Go.Im
def aua(y:Int×Int×Int)(now:List (Int×Ml)):Int:=now.foldl (λa z=>if z.1=y.1/\z.2.id=y.2.1 then z.2.mod else a) y.2.2
def zh(A:Acc)(box:Int)(l:List (Int×Int×Int))(t:Nat):List (Int×Int×Int):=match l[t]? with|some y=>l.set t (y.1,y.2.1,aua y (Wn A.mails box))|none=>l
def tells(A:Acc)(box:Int)(l:List (Int×Int×Int))(fr:List (Int×Int×Ml)):List (Int×Int×Int):=fr.foldl (λl x=>zh A box l (x.1 - 1).toNat) l
def aEC(A:Acc)(box:Int)(l:List (Int×Int×Int))(t:Nat):(zh A box l t).length=l.length:=by
 unfold zh;split
 ·rw[r!]
 ·rfl
def afb(A:Acc)(box:Int):∀(fr:List (Int×Int×Ml)) (l:List (Int×Int×Int)),(tells A box l fr).length=l.length
 | [],_=>rfl
 |x::fr,l=>by
  show(tells A box (zh A box l (x.1 - 1).toNat) fr).length=_;rw[afb A box fr,aEC]
def aCL(A:Acc)(box:Int)(l:List (Int×Int×Int)){fr:List (Int×Int×Ml)}{k:Nat}{x:Int×Int×Ml}(a:fr[k]?=some x):tells A box l (fr.take (k+1))=zh A box (tells A box l (fr.take k)) (x.1 - 1).toNat:=by
 unfold tells;rw[Go.Vm.take_snoc a,N!];rfl
def aHu{m:List Mg}{t:Nat}{x:Mg}(A:Acc)(box:Int)(a:m[t]?=some x):(m.set t {x with told:=FH x (Wn A.mails box)}).map mgK=zh A box (m.map mgK) t:=by
 have h:(m.map mgK)[t]?=some (mgK x):=by rw[e!,a];rfl
 unfold zh;rw[h,F!];rfl
def aQT(b:Bool)(h:Hp):bW zAn [(4,1,K b)] h=D (anV 0 [] false false b) h:=(rfl)
def Run(l:List Int)(tx:List Nat):Prop:=l= []/\tx= []
end Go.Im
namespace Go.Proofs.Im
section
variable{h h' g h0:Hp}{P G E F I J Z S:Pos->Prop}{ps pl ib p pv ir pc im a3 d plc:Pos}{A B:Acc}{cb:Cap}{fb uid only f:Bool}{v vm vl vv vw vk C:V}{l fr:List (Int×Int×Ml)}{L:List V}{s tx:List Nat}{w:Wds}{st:Sn}{bb:Nat}{ks:Int×Int×List (Int×Int×Int)}{x y:Int×Int×Ml}{left:List Int}{M:Wr}{tl:TypeId}
def Rq.beside(q:Rq bb h0 Z h pc im ps ir uid w s st L vw P F J pl ib cb fb vm vl vv I)(c:Ch S h h')(a:∀j,S j->¬OfB ir 5 L j/\¬Ft F J pc im j/\h0.next.nat<=j.nat):Rq bb h0 Z h' pc im ps ir uid w s st L vw P F J pl ib cb fb vm vl vv I where
 bd:=q.bd.chO c λj o e=>(a j e).1 o
 l0:=q.l0
 l1:=q.l1
 l3:=q.l3
 l4:=q.l4
 ws:=q.ws.ch c λj _ b=>⟨b,λe=>by have:=(q.old j b).1;have:=q.hbb;have:=(a j e).2.2;omega⟩
 wd:=q.wd.ch c λj f e=>(a j e).2.1 f
 dis:=q.dis
 old:=q.old
 hbb:=q.hbb
 ob:=q.ob
 foot:=q.foot
 chz:=q.chz.trans c λj hj e=>by have:=(a j e).2.2;omega
def Rq.told(q:Rq bb h0 Z h pc im ps ir uid w s st L vw P F J pl ib cb fb vm vl vv I)(hv:st.vw=some ks)(z:st.acc.Small)(hk:ks.2.2.length<=1000)(W:(Wn st.acc.mails ks.1).Pairwise λx y=>x.1<y.1)(i:(Wn st.acc.mails ks.1).length<50){t:Nat}(ht:t<ks.2.2.length):
  ∃u h',BA [vv,X ps 0,iV ((t:Int)+1)] h=D u h'/\Rq bb h0 Z h' pc im ps ir uid w s {st with vw:=some (ks.1,ks.2.1,zh st.acc ks.1 ks.2.2 t)} L vw P F J pl ib cb fb vm vl vv I/\Ch J h h':=by
 have b:=q.wd.view;rw[hv]at b;obtain⟨pv,vwr,m,rfl,vk,r⟩:=b;have Q:m.length=ks.2.2.length:=by have:=congrArg X! r;simpa using this
 obtain⟨x,k⟩:∃x,m[t]?=some x:=⟨_,c! (by omega)⟩
 obtain⟨u,h',e,o,c⟩:=aFx q.wd.acc z vk (by omega) W i k;have n:=vk.foot.2.2 x (d! k);have a:Ch J h h':=c.mono λj _ e=>by rw[e];exact n
 have w':World h' pc im ps {st with vw:=some (ks.1,ks.2.1,zh st.acc ks.1 ks.2.2 t)} F J pl ib cb fb vm vl (X pv 0) I:=
  {acc:=q.wd.acc.ch a λj f=>(q.wd.fj j f).1
   con:=q.wd.con.ch a λj=>(q.wd.jn _ j).1 rfl
   map:=q.wd.map.ch a λj=>(q.wd.jn _ j).2 rfl
   view:=⟨pv,vwr,_,rfl,o,by rw[aHu _ _ k,r]⟩
   ne:=q.wd.ne
   fj:=q.wd.fj
   jn:=q.wd.jn}
 exact⟨u,h',e,q.turn w' a (λj e=>.inr (.inl e)) (λj e=>.inl e),a⟩
def auP:Go.Vm.F->Hp->Out:=(aB (aB QN (bD 1 (dG aeP lf))) (aB QM (aB (aB QL (tT 163 ad2 Out.nor)) (aB QK Out.ret))))
def aEF{fm:Go.Vm.F}(q:Rq bb h0 Z g pc im ps ir uid w s st L vw P F J pl ib cb fb vm vl vv I)(hv:st.vw=some ks)(hA:st.acc.Small)(hk:ks.2.2.length<=1000)(hs:(Wn st.acc.mails ks.1).Pairwise λx y=>x.1<y.1)(am:(Wn st.acc.mails ks.1).length<50)
  (k4:Kn g d (O (N tA true) zAn)) (aw:¬(Ft F J pc im d\/OfB ir 5 L d)) (h4:h0.next.nat<=d.nat) (k3:Kn g a3 (O M [X ir 0])) (n3:¬J a3) (kl:Kn g plc (O (N tl f) [C])) (nl:¬J plc) (rl:Rws E (flat iG) 1 g C left) (an:∀j,E j->¬J j)
  (r:Rws G msE 10 g v l) (hl:l.length<=1000) (af:∀x∈l,∃y,((fH st.acc.mails ks.1 0 ks.2.2).find? λy=>decide (y.1=x.1))=some y) (ag:fr=pW (fH st.acc.mails ks.1 0 ks.2.2) l) (ao:∀x∈fr,1<=x.1/\x.1<=ks.2.2.length) (ah:Run left tx)
  (f0:fm.get (h! 0)=some (X pc 0)) (f3:fm.get (h! 3)=some (X a3 0)) (W:fm.get (h! 4)=some (X d 0)) (f6:fm.get (h! 6)=some v) (c:fm.get (h! 12)=some (K true)) (a:fm.get (h! 17)=some (X plc 0)):
  aV p! [.cell 4 tA] (RunT bb h0 Z vw P pc im ps ir uid w (anL 0 tx false false (!uid)) s {st with vw:=some (ks.1,ks.2.1,tells st.acc ks.1 ks.2.2 fr)}) (auP fm g):=by
 have K3:=k3.ld (q:=0) (x:=X ir 0) rfl;obtain⟨rv,g1,e1,o1,c1⟩:=q.fresh hv hA hk r hl af;rw[<-ag]at o1;have aL:fr.length<=1000:=by
  rw[ag];unfold pW;exact H! (D! _ _) hl
 have R:=o1.rws dK;have ln:=λh=>R.len h;have q1:=q.nw c1;have n1:=c1.next;have hJ:∀j,J j->j.nat<g.next.nat:=λj e=>q.wd.lt j (.inr (.inl e));unfold auP;simp only[vvB,seval,QN,f3,f6,K3,e1,ln];refine Oc.then (dP (σ:=Unit) (n:=fr.length) (pi:=129) (pn:=128) (pc:=130) [0,3,4,12,17,127] (λ_=> [X pc 0,X a3 0,X d 0,K true,X plc 0,rv]) (λk _ g'=>Rq bb h0 Z g' pc im ps ir uid w s {st with vw:=some (ks.1,ks.2.1,tells st.acc ks.1 ks.2.2 (fr.take k))} L vw P F J pl ib cb fb vm vl vv I/\Ch J g1 g')
  (A:=λfm g'=>fm.get (h! 3)=some (X a3 0)/\fm.get (h! 4)=some (X d 0)/\fm.get (h! 17)=some (X plc 0)/\Rq bb h0 Z g' pc im ps ir uid w s {st with vw:=some (ks.1,ks.2.1,tells st.acc ks.1 ks.2.2 fr)} L vw P F J pl ib cb fb vm vl vv I/\Ch J g1 g') (B:=λ_ _=>False) (s:=())
  (λfr h _ k e1 e2=>by simp only[vvB,seval,ad7,e1,e2]) (λfr h k _ e1=>by simp(disch:=omega)only[vvB,seval,ad3,e1]) (by decide) (by rw[dR];omega) (qK0) (qK0) (by simp only[Fa,vvB,seval,f0,f3,W,c,a,and_self]) ⟨?_,Ch.refl _ _⟩ ?_ ?_) ?_ ?_
 ·have:({st with vw:=some (ks.1,ks.2.1,tells st.acc ks.1 ks.2.2 (fr.take 0))}:Sn)=st:=by
   cases st;simp only[]at hv;subst hv;rfl
  rw[this];exact q1
 ·intro k _ fm g2 ap Q ae fa hI;obtain⟨f0,f3,W,c,a,m,-⟩:=fa;obtain⟨q2,b⟩:=hI;obtain⟨x,hx⟩:∃x,fr[k]?=some x:=⟨_,c! ap⟩
  obtain⟨a0,a1⟩:=ao x (d! hx);obtain⟨i,qq,cs,e2,ex,aE,-,-,-,e3⟩:=(R.ch (P':=λ_=>True) dK b λj _ pj=>⟨trivial,λe=>by have:=hJ j e;omega⟩).elt hx;have al:=e3 g2 rfl;obtain⟨xk,xs,rfl,-,-⟩:=ex;obtain⟨g3,ab,z,k5⟩:=mkW g2 (O (N 200 true) (msC x xk xs));have S3:=mkT 10 zMs ab;have X0:=k5.ld (q:=0) (x:=iV x.1) rfl;have q3:=q2.nw z;have ax:=((k3.nw c1).ch b n3).nw z;have aa:=ax.ld (q:=0) (x:=X ir 0) rfl;have R1:=q3.kr.ld q3.l1;have C1:=q3.wd.con.ld (q:=1) (x:=vv) rfl;obtain⟨t,ht⟩:∃t:Nat,x.1=(t:Int)+1:=⟨(x.1 - 1).toNat,by omega⟩
  have aq:t<(tells st.acc ks.1 ks.2.2 (fr.take k)).length:=by rw[afb];omega
  obtain⟨u,g4,e4,q4,c4⟩:=q3.told (ks:=(ks.1,ks.2.1,tells st.acc ks.1 ks.2.2 (fr.take k))) rfl hA (by show(tells st.acc ks.1 ks.2.2 (fr.take k)).length<=1000;rw[afb];exact hk) hs am aq;rw[ht]at X0;have aR:vv.cells= [vv]/\ig vv=true:=q3.wd.view.cell;simp(disch:=omega)only[vvB,seval,ad6,ad5,ad4,f0,f3,c,m,Q,e2,al,oV,S3,aa,R1,C1,X0,e4];refine⟨qK2 Q,qK2 ae,(),by simp only[Fa,vvB,seval,f0,f3,W,c,a,m,and_self],?_,(b.nw z).trans c4 λ_ _ q=>q⟩;have ai:=aCL st.acc ks.1 ks.2.2 hx
  have ar:(x.1 - 1).toNat=t:=by omega
  rw[ar]at ai;rw[ai];exact q4
 ·intro _ fm g2 fa hI;obtain⟨f0,f3,W,c,a,m,-⟩:=fa;obtain⟨q2,b⟩:=hI;rw[B!]at q2;exact⟨f3,W,a,q2,b⟩
 ·rintro fm g2 ⟨f3,W,a,q2,b⟩;have aa:=((k3.nw c1).ch b n3).ld (q:=0) (x:=X ir 0) rfl;have R4:=q2.kr.ld q2.l4;have aM:=b.next;have ak:¬J d:=λe=>aw (.inl (.inr (.inl e)));have ad:=(k4.nw c1).ch b ak;have ay:=(kl.nw c1).ch b nl;obtain⟨g3,ab,z,au⟩:=mkW g2 (O (N tA true) (anL 0 [] false false (!uid)));have S3:aS 5 (X g2.next 0) (anV 0 [] false false (!uid)) (g2.new (O (N tA true) zAn))=D V.undef g3:=by rw[ab];exact BK (V.iI _) rfl rfl
  have q3:=q2.nw z;have L3:=(ay.nw z).ld (q:=0) (x:=C) rfl;have az:=((rl.nw (aJ _) c1).ch (P':=λ_=>True) (aJ _) b λj _ p=>⟨trivial,an j p⟩).nw (aJ _) z;have ll:=λh=>az.len h;have bA:=λh=>aQT (!uid) h;have aD:=ad.2;obtain⟨rfl,rfl⟩:=ah;have eG:(((([]:List Int).length:Nat):Int)>0)=False:=eq_false (by simp);have aj:=au.ldN (n:=5) rfl;obtain⟨g4,ac⟩:∃g4,g4=g3.put d (some (O (N tA true) (anL 0 [] false false (!uid)))):=⟨_,rfl⟩
  have S4:aS 5 (X d 0) (anV 0 [] false false (!uid)) g3=D V.undef g4:=by rw[ac];exact(ad.nw z).stN rfl rfl
  have av:Kn g4 d (O (N tA true) (anL 0 [] false false (!uid))):=by rw[ac];exact(ad.nw z).put _
  have c4:Ch (λj=>j=d) g3 g4:=by rw[ac];exact Ch.put _ _ rfl
  have q4:=q3.ah0 c4 (λo=>aw (.inr o)) (λf=>aw (.inl f)) h4;simp(disch:=omega)only[vvB,seval,QM,QL,QK,f3,W,a,aa,R4,bA,oV,S3,L3,ll,eG,decide_false,aj,S4];exact aV.ret (by simp only[bQ,vvB,seval,W,Ap,av.ldN (n:=5) rfl,bT]) ⟨rfl,q4.mk'⟩
 ·intro fr g q;exact q.elim
end
end Go.Proofs.Im
