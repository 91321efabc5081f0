/- Lemmas. No conditions. -/
import Derived.Test.YtpgppmioigacoaaGreatDoorSAW
import Derived.Test.YtpgppmioigacoaaGreatDoorSAT
import Derived.Test.YtpgppmioigacoaaGreatDoorSAU
set_option linter.all false
set_option maxRecDepth 100000
open List renaming range→a!,replicate→b!,getElem?_eq_some_iff→e!,getElem?_map→j!,getElem?_eq_getElem→k!,length_map→t!,drop_eq_getElem_cons→u!,map_cons→v!,length_replicate→w!,mem_of_getElem?→x!,getElem?_range→y!,length_range→z!,drop_length→A!,range_succ→B!,length_set→C!
open Nat renaming ble_eq_true_of_le→c!,le_refl→d!,zero_add→h!,add_zero→i!,le_add_left→n!,ble→p!,beq→q!,zero_le→r!,zero_lt_one→D!,le_trans→G!,mul_one→H!
open Go.Vm.Pos renaming of→g!
open Int renaming reduceEq→l!
open Go.Proofs.Tryz renaming prog→o!
open Bool renaming false_and→E!,true_and→F!
open Go.Vm.V renaming int→Y,ptr→X,bool→K,str→H
open Go.IntKind renaming i64→U
open Go.Vm.Ob renaming cells→O
open Go.Vm.Wr renaming rw→N
open Go.Vm.R renaming ok→D
noncomputable section
open Go Go.Proofs Go.Vm Go.Im Go.Ln Go.Proofs.Im
namespace Go.Proofs.Im
section
variable{B:Nat}{h h' i g:Hp}{pr po pm p q:Pos}{vw vw1 vu v v1 f:V}{box:Int}{out d ts:List Tm}{I I1 P:Pos->Prop}{t:Tm}{x n:Int}{ws:Wds}{s nm:List Nat}{b:Bool}{c:Nat}
def _root_.Go.Im.Kto.wds{ws:Wds}{u vw':V}{out':List Tm}{v':V}{I':Pos->Prop}(a:Kto B h pr po pm box vu v I h' vw' out' v' I')(k:RdK B h pr po pm vw box vu out v I)(l:∀j,P j->j.nat<B)(t:WS P h u ws):WS P h' u ws:=
 t.ch a.c λj _ q=>⟨q,λe=>by
  have:=l j q;rcases e with e|e|e
  ·rw[e]at this;have:=k.lo.1;omega
  ·rw[e]at this;have:=k.lo.2.1;omega
  ·have:=(k.t.fF e).1;omega⟩
def aN0 [InK](p:Pos)(x:V)(g:Hp):dn FI (.func (.func 518) .nil (.cons (X p 0) .nil)) [x] g=CP [x,X p 0] g:=(rfl)
def aNZ [InK](p:Pos)(x:V)(g:Hp):dn FI (.func (.func 511) .nil (.cons (X p 0) .nil)) [x] g=CO [x,X p 0] g:=(rfl)
def aJg [InK](p:Pos)(x:V)(g:Hp):dn FI (.func (.func 517) .nil (.cons (X p 0) .nil)) [x] g=J8 [x,X p 0] g:=(rfl)
def aPS [InK](x:V)(g:Hp):dn FI (.func (.func 461) .nil .nil) [x] g=VN [x] g:=(rfl)
def aNY [InK](x:V)(g:Hp):dn FI (.func (.func 468) .nil .nil) [x] g=PI [x] g:=(rfl)
def MB(F:Fun)(P:Pos->Prop)(B:Nat)(h:Hp)(pr po pm:Pos)(box:Int)(vu v:V)(I:Pos->Prop)(out ts:List Tm)(n:Int)(ws:Wds):Prop:=
 ∃vw1 v1 i I1,F [X pr 0] h=D (rV n true) i/\Kto B h pr po pm box vu v I i vw1 (out++ts) v1 I1/\WS P i vw1 ws
def MB.of{F:Fun}(e:∃vw1 v1 i I1 d n1,F [X pr 0] h=D (rV n1 true) i/\Kto B h pr po pm box vu v I i vw1 d v1 I1/\(d=out++ts/\n1=n/\WS P i vw1 ws)):MB F P B h pr po pm box vu v I out ts n ws:=by
 obtain⟨vw1,v1,i,I1,d,n1,e,a,rfl,rfl,t⟩:=e;exact⟨vw1,v1,i,I1,e,a,t⟩
abbrev aGp:List Nat:= [78,79,84]
abbrev aHh:List Nat:= [65,76,76]
abbrev tK(s:List Nat):Tm:=⟨6,0,[],s,[],[]⟩
abbrev tN(n:Int):Tm:=⟨3,0,[],[],[],[n]⟩
abbrev tH(n s:List Nat):Tm:=⟨12,0,n,s,[],[]⟩
abbrev tC(l:List Int):Tm:=⟨1,0,[],[],[],l⟩
def aGB [InK](k:RdK B h pr po pm vw box vu out v I)(y:WS P h vw ws)(o:∀j,P j->j.nat<B)(e0:ws.get? 0=some ⟨1,c::s,.nil⟩)(r:65<=c)(hb:∀x∈c::s,x<256)(a:s.length<1000)(u:foldM (c::s)=aBY)(hl:out.length<90):
  MB qf P B h pr po pm box vu v I out [tK gZ] out.length (ws.drop 1):=.of<|by
 refine PL k y o e0 r hb a (Q:=λi vw1 d n1=>d=out++ [tK gZ]/\n1=out.length/\WS P i vw1 (ws.drop 1)) λvw' p E hd m T A _=>?_;obtain⟨q,f,w⟩:=A.seen;obtain⟨v1,i,I1,e,l⟩:=asJ m w (by omega);exact⟨_,_,_,vw',_,v1,I1,i,_,by rw[u];exact f,by rw[aN0];exact e,l,rfl,rfl,l.wds m o T⟩
def aJe [InK](k:RdK B h pr po pm vw box vu out v I)(w:WS P h vw ws)(o:∀j,P j->j.nat<B)(e0:ws.get? 0=some ⟨1,c::s,.nil⟩)(r:65<=c)(hb:∀x∈c::s,x<256)(a:s.length<1000)(u:foldM (c::s)=aOk)(hl:out.length<90):
  MB qf P B h pr po pm box vu v I out [tC []] out.length (ws.drop 1):=.of<|by
 refine PL k w o e0 r hb a (Q:=λi vw1 d n1=>d=out++ [tC []]/\n1=out.length/\WS P i vw1 (ws.drop 1)) λvw' p E hd m T A _=>?_;obtain⟨v1,i,I1,e,l⟩:=aH8 m (by omega);exact⟨_,_,_,vw',_,v1,I1,i,_,by rw[u];exact A.all,by rw[aPS];exact e,l,rfl,rfl,l.wds m o T⟩
def aGA [InK](k:RdK B h pr po pm vw box vu out v I)(C:WS P h vw ws)(o:∀j,P j->j.nat<B)(e0:ws.get? 0=some ⟨1,c::s,.nil⟩)(w:65<=c)(hb:∀x∈c::s,x<256)(a:s.length<1000)(y:foldM (c::s)=aIa)(e1:ws.get? 1=some ⟨1,nm,.nil⟩)(hl:out.length<90):
  MB qf P B h pr po pm box vu v I out [tH ji nm] out.length ((ws.drop 1).drop 1):=.of<|by
 refine PL k C o e0 w hb a (Q:=λi vw1 d n1=>d=out++ [tH ji nm]/\n1=out.length/\WS P i vw1 ((ws.drop 1).drop 1)) λvw' p E hd m T A G=>?_;obtain⟨q,f,z,J⟩:=A.subj;obtain⟨vw1,v1,i,I1,e,l,u⟩:=aDF m z (λe=>by have:=k.r.2;rw[<-e]at this;omega) T (s:=nm) (by rw[Wds.ae3];exact e1) (by omega);exact⟨_,_,_,vw1,_,v1,I1,i,_,by rw[y];exact f,by rw[aJg];exact e,l,rfl,rfl,l.wds m o u⟩
def aCw [InK](k:RdK B h pr po pm vw box vu out v I)(J:WS P h vw ws)(r:∀j,P j->j.nat<B)(e0:ws.get? 0=some ⟨1,c::s,.nil⟩)(z:65<=c)(hb:∀x∈c::s,x<256)(a:s.length<1000)(C:foldM (c::s)=aoS)(hl:out.length<90):
  MB qf P B h pr po pm box vu v I out [tK gZ,tN out.length] (out.length+1) (ws.drop 1):=.of<|by
 refine PL k J r e0 z hb a (Q:=λi vw1 d n1=>d=out++ [tK gZ,tN out.length]/\n1=out.length+1/\WS P i vw1 (ws.drop 1)) λvw' p E hd o T A _=>?_;obtain⟨q,q',f,G,l⟩:=A.unseen;obtain⟨v1,i,I1,e,w⟩:=asJ o l (by omega);obtain⟨v2,y,u,e2,m,-⟩:=asI G (by rw[aC0];exact e) w (by simp;omega);exact⟨_,_,_,vw',_,v2,u,y,_,by rw[C];exact f,by rw[aNZ];exact e2,m,by simp,by simp,m.wds o r T⟩
def aJd(k:RdK B h pr po pm vw box vu out v I)(G:WS P h vw ws)(a:∀j,P j->j.nat<B)(e0:ws.get? 0=some ⟨1,aGp,.nil⟩)(e1:ws.get? 1=some ⟨1,aHh,.nil⟩)(hl:out.length<80):
  MB PK P B h pr po pm box vu v I out [tC [],tN out.length] (out.length+1) ((ws.drop 1).drop 1):=by
 letI:InK:=lvK 1
 show MB qf P B h pr po pm box vu v I out [tC [],tN out.length] (out.length+1) ((ws.drop 1).drop 1);refine .of (PL k G a e0 (by decide) (by decide) (by decide) (Q:=λi vw1 d n1=>d=out++ [tC [],tN out.length]/\n1=out.length+1/\WS P i vw1 ((ws.drop 1).drop 1)) λvw' p E hd z T A _=>?_);have K':=z.nw (Nw.new hd (O (N 431 true) [.func (.func 330) .nil .nil]))
 have w:WS P (hd.new (O (N 431 true) [.func (.func 330) .nil .nil])) vw' (ws.drop 1):=T.ch (Nw.new hd (O (N 431 true) [.func (.func 330) .nil .nil])) λj _ q=>⟨q,λq=>q⟩
 have u:MB (@qf (lvK 0)) P B (hd.new (O (N 431 true) [.func (.func 330) .nil .nil])) pr po pm box vu v I out [tC []] out.length ((ws.drop 1).drop 1):=by
  letI:InK:=lvK 0
  exact aJe K' w a (c:=65) (s:= [76,76]) (by rw[Wds.ae3];exact e1) (by decide) (by decide) (by decide) (by decide) (by omega)
 obtain⟨vw1,v1,i,I1,e,l,y⟩:=u;obtain⟨v2,C,m,e2,o,r⟩:=aFP (n:=out.length) (b:=true) e l (by simp;omega);exact⟨_,_,_,vw1,_,v2,m,C,_,A.nt,by rw[aNY];exact e2,o,by simp,by simp,r.wds l.k a y⟩
end
end Go.Proofs.Im
namespace Go.Vm
def aD5(b:F->Hp->Out)(n:Nat)(fr:F)(h:Hp):dI b (n+1) fr h=lF (b fr h) (dI b n):=by
 show(match b fr h with
  | .nor fr h=>dI b n fr h
  | .ret fr h=>.ret fr h
  | .ex i fr h=>.ex i fr h
  | .bad=>.bad)=_
 cases b fr h<;>rfl
def aIe(b:F->Hp->Out)(fr:F)(h:Hp):dI b lf fr h=lF (b fr h) (dI b 9999999999999999999):=by
 have e:lf=9999999999999999999+1:=rfl;rw[e,aD5]
def aPJ{i:Pos}{n:Nat}(h:Hp):eP 2 (.slice i 0 n (.un 2)) none (some (Y U 0)) (some (Y U (n:Int))) h=D (.slice i 0 0 (.kn n)) h:=by
 show(match p! n n,p! 0 n,p! 0 0 with
  |true,true,true=>eG (moved 2 0 0 n) λq=>eG (0 - 0) λk=>R.ok (V.slice i q k (.kn (n - 0))) h
  |_,_,_=>.bad)=_
 rw[c! (d! n),c! (r! n)];have:moved 2 0 0 n=0:=by unfold moved;split<;>rfl
 simp only[p!,this,dF,Nat.sub_zero]
def aJS{h:Hp}{el t:TypeId}{bt n:Nat}{p:Pos}{f:Bool}{post:List V}{i j x y:V}(k:h.get p=some (O (N t f) (i::j::post)))(hn:0<n)(l:p.nat<h.next.nat):
  bZ el 2 bt (.slice p 0 0 (.kn n)) (.slice h.next 0 1 (.kn 1)) (h.new (O (N el true) [x,y]))=D (.slice p 0 1 (.kn n)) ((h.new (O (N el true) [x,y])).put p (some (O (N t f) (x::y::post)))):=by
 have e:(h.new (O (N el true) [x,y])).get p=some (O (N t f) (i::j::post)):=by rw[new_ne h (by omega)];exact k
 unfold bZ;have d:∀f:Nat->List V->R V,qK 2 (.slice h.next 0 1 (.kn 1)) (h.new (O (N el true) [x,y])) f=f 1 [x,y]:=λf=>by
  show dR _ _ _=_;rw[dM (wr:=N el true) (all:= [x,y]) (by rw[dU];rfl)];rfl
 rw[d];simp only[];rw[dM (wr:=N t f) (all:=i::j::post) (by rw[e];rfl)];simp only[dF,h!,Nat.zero_mul];rw[c! (show 1<=n by omega)];rfl
end Go.Vm
namespace Go.Proofs.Im
section
variable{h g:Hp}{p q:Pos}{n:Nat}{wr:Wr}{c:Int}{a b:Int×Int}
def aNp(k:Kn h p (O wr [iV 1,iV c])):J9 [.slice p 0 2 (.kn 2)] h=D (iV 1) h:=by
 have d:∀g,bD 1 (.slice p 0 2 (.kn 2)) (Y U 0) g=D (X p 0) g:=λg=>sZ (sz:=1) (i:=p) (c:=.kn 2) (m:=0) (n:=2) (by omega) g;have e:∀g,aZ 2 (.slice p 0 2 (.kn 2)) g=D (Y U 2) g:=λg=>rfl;have L:=k.ld (q:=0) (x:=iV 1) rfl;rw[atl];simp(disch:=omega)only[vvB,seval,aok,ajP,agj,agi,aIe,agQ,KW,agf,agd,agc,e,d,L];simp only[bU,bT,vvB,seval,bW]<;>rfl
def ayp(G:b.1<a.1)(I:b.2<a.2)(g:Hp):∃s,vP [.agg (V.ofList (dK a)),.agg (V.ofList (dK b))] g=D (iV 1) s/\Nw g s:=by
 obtain⟨t,j,y,J⟩:=mkW g (O (N 98 true) (dK a));obtain⟨d,l,r,u⟩:=mkW t (O (N 98 true) (dK b));have f:=J.nw r;have v:=(f.bump 1).ld (q:=0) (x:=iV a.1) rfl;have m:=(f.bump 1).ld (q:=1) (x:=iV a.2) rfl;have B0:=(u.bump 1).ld (q:=0) (x:=iV b.1) rfl;have o:=(u.bump 1).ld (q:=1) (x:=iV b.2) rfl;have e1:=aqS G (aK 1 d);have e2:=aqS I (aK 1 d);have B:∀{k:Out},chk (λh=>aG (X g.next 1) h) (iV a.2) k 1 [aK 1 d]=k:=sN rfl m;have C:∀{k:Out},chk (λh=>aG (X t.next 1) h) (iV b.2) k 1 [aK 1 d]=k:=sN rfl o;have w:eH 3 [Y U 0,Y U 0] 2 [(0,1,iV 1),(1,1,iV 1)]=some (O (N 3 true) [iV 1,iV 1],λp=>.slice p 0 2 (.kn 2)):=rfl;obtain⟨i,e,z,-⟩:=mkW d (O (N 3 true) [iV 1,iV 1]);have E:J9 [.slice d.next 0 2 (.kn 2)] i=D (iV 1) i:=by rw[e];exact aNp (Kn.new _ _)
 refine⟨i,?_,(y.trans r).trans z⟩;rw[aqH];simp(disch:=omega)only[vvB,seval,ajZ,acO,acN,o8,V.dB,<-j,<-l,v,m,B0,o,e1,e2,B,C,w,<-e,E];simp only[bU,bT,vvB,seval,bW]<;>rfl
end
section
variable{h h' g:Hp}{q i:Pos}{v f:V}{P:Pos->Prop}{n k:Nat}{b c:Int}
def apv(e:FuncId->Option Fun)(s:∀x y g,dn e (.func (.func 396) .nil .nil) [x,y] g=vP [x,y] g){l:List (Int×Int)}(t:l.Pairwise λx y=>x.1<y.1/\x.2<y.2)(h:Hp):jR e P (flat dK) h (.func (.func 396) .nil .nil) l:=by
 rintro g i j x y p r c d u w e1 e2 _ _;obtain⟨hi,m⟩:=e!.1 u;obtain⟨hj,o⟩:=e!.1 w;have a:x.1<y.1/\x.2<y.2:=by rw[<-m,<-o];exact List.pairwise_iff_getElem.1 t i j hi hj d
 obtain rfl:p=dK x:=e1;obtain rfl:r=dK y:=e2;rw[s];exact ayp a.1 a.2 g
def vJ(b:Int)(n:Nat):List (Int×Int):=(a! n).map λk:Nat=>(b+(k:Int),b+(k:Int))
def aaB(b:Int)(n:Nat):(vJ b n).length=n:=by simp[vJ]
def apE{k:Nat}(hk:k<n):(vJ b n)[k]?=some (b+(k:Int),b+(k:Int)):=by
 unfold vJ;rw[j!,y! hk];rfl
def Xp(b:Int)(n:Nat):(vJ b n).Pairwise λx y=>x.1<y.1/\x.2<y.2:=by
 unfold vJ;rw[List.pairwise_map];exact List.pairwise_lt_range.imp λh=>⟨by simp only[];omega,by simp only[];omega⟩
def ae7(b:Int)(n k:Nat):List (Int×Int):=match k with|0=>vJ b n|k+1=>(b,b+(k:Int))::(vJ b n).drop 1
def aG4(hn:1<=n):(ae7 b n k).length=n:=by
 cases k with
 |zero=>exact aaB b n
 |succ k=>simp[ae7,aaB];omega
def aJM(hk:k<n):(ae7 b n k)[k]?=some (b+(k:Int),b+(k:Int)):=by
 cases k with
 |zero=>exact apE hk
 |succ k=>
  show((b,b+(k:Int))::(vJ b n).drop 1)[k+1]?=_;rw[List.getElem?_cons_succ,List.getElem?_drop,show 1+k=k+1 by omega];exact apE hk
def aCT(b:Int)(n:Nat):List V:=(((vJ b n).drop 1).map dK).flatten
def aEv(hn:1<=n):((ae7 b n 0).map dK).flatten=iV b::iV b::aCT b n:=by
 have h0:vJ b n=(b,b)::(vJ b n).drop 1:=by
  have:=apE (b:=b) (n:=n) (k:=0) (by omega);cases hl:vJ b n with
  |nil=>rw[hl]at this;cases this
  |cons x l=>rw[hl]at this;simp at this;rw[this];rfl
 show((vJ b n).map dK).flatten=_;rw[h0];rfl
def akR(k:Nat):((ae7 b n (k+1)).map dK).flatten=iV b::iV (b+(k:Int))::aCT b n:=rfl
def aIo(x y:Int)(h:Hp):bP 98 [Y U 0,Y U 0] 1 [(0,2,.agg (V.ofList (dK (x,y))))] h=D (.slice h.next 0 1 (.kn 1)) (h.new (O (N 98 true) [iV x,iV y])):=(rfl)
theorem aDb(r:Rws P (flat dK) 2 h v (vJ b n))(hn:1<=n)(ad:n<50)(hb:0<b/\b<1000):
  ∃v' h',SV [v] h=D v' h'/\Rws (λj=>h.next.nat<=j.nat) (flat dK) 2 h' v' [(b,b+(n:Int) - 1)]/\Nw h h':=by
 have hl:=aaB b n;obtain⟨r0,h1,e1,R1,c1,o1⟩:=atq r (by rw[hl];omega);have o:dD h.next.nat (λ_=>False) (flat dK) 98 2 h1 r0 (vJ b n):=o1.elim (λe=>by rw[e]at hl;simp at hl;omega) λo=>o;obtain⟨i,f,I,Z,k1⟩:=o.open (λe=>by rw[e]at hl;simp at hl;omega);rw[hl]at I;subst I;obtain⟨h2,e2,M⟩:=ak2 (f:=.func (.func 396) .nil .nil) R1 (aN _) (by rw[hl];omega) (apv _ (λ_ _ _=>rfl) (Xp b n) _) (apv _ (λ_ _ _=>rfl) (Xp b n) _) (apv _ (λ_ _ _=>rfl) (Xp b n) _);have k2:=k1.nw M;have n2:=(c1.trans M).next;have L0:∀g,aZ 2 (.slice i 0 n (.un 2)) g=D (Y U (n:Int)) g:=λg=>rfl;rw[atc];show aX o! _ (λr h'=>Rws (λj=>h.next.nat<=j.nat) (flat dK) 2 h' r [(b,b+(n:Int) - 1)]/\Nw h h') _;simp only[vvB,Nat.reduceEqDiff,reduceCtorEq,↓reduceIte,aog,Au,afH,afG,afF,afE,agO,e1,e2,L0,aPJ];refine Oc.then (dO (σ:=Nat) (n:=n) (pi:=17) (pn:=16) (pc:=18) [3,15] (λs=> [.slice i 0 (min s 1) (.kn n),.slice i 0 n (.un 2)]) (λk s g=>s=k/\Nw h g/\Kn g i (O (N 98 f) ((ae7 b n k).map dK).flatten))
  (A:=λfr g=>fr.get (g! 3)=some (.slice i 0 1 (.kn n))/\Nw h g/\Kn g i (O (N 98 f) ((ae7 b n n).map dK).flatten)) (B:=λfr g=>False) (s:=0)
  (λfr h _ k e1 e2=>by simp only[vvB,Nat.reduceEqDiff,reduceCtorEq,↓reduceIte,afD,e1,e2]) (λfr h k _ e1=>by simp(disch:=omega)only[vvB,Nat.reduceEqDiff,reduceCtorEq,↓reduceIte,acQ,e1]) (by decide) (by rw[dP];omega) (qK0) (qK0) (by simp only[Fa,vvB,Nat.reduceEqDiff,reduceCtorEq,↓reduceIte,and_self];exact⟨rfl,trivial⟩) ⟨rfl,c1.trans M,k2⟩ ?_ ?_) ?_ ?_
 ·rintro k s fr g hk u G Q ⟨rfl,z,w⟩;obtain⟨f3,p,-⟩:=Q;have R:=Kn.rws (c:=dK) (l:=ae7 b n s) (cp:=.un 2) (sz:=2) w (λ_=>rfl) (λ_ _ _ _ e=>by cases e;exact rfl);rw[aG4 hn]at R;obtain⟨i',q,cs,ix,ex,-,-,-,-,ld⟩:=R.elt (aJM hk);obtain rfl:cs=dK (b+(s:Int),b+(s:Int)):=ex;have J:=ld g rfl;obtain⟨C,aa,t,kE⟩:=mkW g (O (N 98 true) (dK (b+(s:Int),b+(s:Int))));have S1:=mkT 2 [Y U 0,Y U 0] aa;have A0:=kE.ld (q:=0) (x:=iV (b+(s:Int))) rfl;have A1:=kE.ld (q:=1) (x:=iV (b+(s:Int))) rfl;have AN:=kE.ldN (n:=2) rfl;have a:=w.nw t;have ae:=z.next;have ac:=t.next;cases s with
  |zero=>
   rw[aEv hn]at a;have L:∀g,aZ 2 (.slice i 0 (min 0 1) (.kn n)) g=D (Y U 0) g:=λg=>rfl;have ap:bZ 98 2 16 (.slice i 0 (min 0 1) (.kn n)) (.slice C.next 0 1 (.kn 1)) (C.new (O (N 98 true) [iV (b+((0:Nat):Int)),iV (b+((0:Nat):Int))]))=_:=aJS (el:=98) (bt:=16) (n:=n) (x:=iV (b+((0:Nat):Int))) (y:=iV (b+((0:Nat):Int))) a.1 (by omega) a.2;have bs:=aIo (b+((0:Nat):Int)) (b+((0:Nat):Int)) C;have d0:decide ((0:Int)>0)=false:=by decide
   simp(disch:=omega)only[vvB,Nat.reduceEqDiff,reduceCtorEq,↓reduceIte,UM,UL,UK,acR,f3,p,u,ix,J,S1,L,d0,AN,bs,ap];refine⟨qK2 u,qK2 G,1,by simp only[Fa,vvB,Nat.reduceEqDiff,reduceCtorEq,↓reduceIte,p,and_self];exact⟨rfl,trivial⟩,rfl,?_,?_⟩
   ·exact(z.trans t).then (((Nw.new C _).ch (S:=λj=>j=i)).trans (Ch.put (S:=λj=>j=i) _ _ rfl) λj _ e=>e) λj hj e=>by rw[e]at hj;omega
   ·have e0:b+((0:Nat):Int)=b:=by simp
    have:=(a.nw (Nw.new C (O (N 98 true) [iV (b+((0:Nat):Int)),iV (b+((0:Nat):Int))]))).put (O (N 98 f) (iV (b+((0:Nat):Int))::iV (b+((0:Nat):Int))::aCT b n));rw[akR];rw[e0]at this⊢;exact this
  |succ j=>
   rw[akR]at a;have L:∀g,aZ 2 (.slice i 0 (min (j+1) 1) (.kn n)) g=D (Y U 1) g:=λg=>by rw[show min (j+1) 1=1 by omega];rfl
   have ab:∀g,bD 2 (.slice i 0 (min (j+1) 1) (.kn n)) (Y U 0) g=D (X i 0) g:=λg=>by rw[show min (j+1) 1=1 by omega];exact sZ (sz:=2) (i:=i) (c:=.kn n) (m:=0) (n:=1) (by omega) g
   have K1:=a.ld (q:=1) (x:=iV (b+(j:Int))) rfl;have z1:∀g,aJ .sub .none (Y U 1) (Y U 1) g=D (Y U 0) g:=λg=>rfl;have sb:∀g,aJ .sub .none (iV (b+((j+1:Nat):Int))) (Y U 1) g=D (iV (b+(j:Int))) g:=λg=>by
    rw[LJ (by omega) (by omega)];congr 2;omega
   have d1:decide (b+(j:Int)<=b+(j:Int))=true:=decide_eq_true (Int.le_refl _);have mx:max (b+(j:Int)) (b+((j+1:Nat):Int))=b+((j+1:Nat):Int):=by omega
   obtain⟨W,E⟩:∃W,W=C.put i (some (O (N 98 f) (iV b::iV (b+((j+1:Nat):Int))::aCT b n))):=⟨_,rfl⟩
   have S2:aV 1 (X i 1) (iV (b+((j+1:Nat):Int))) C=D V.undef W:=by rw[E];exact a.st (q:=1) ⟨rfl,rfl⟩ (by simp)
   simp(disch:=omega)only[vvB,Nat.reduceEqDiff,reduceCtorEq,↓reduceIte,UM,UL,UK,afC,f3,p,u,ix,J,S1,L,z1,A0,A1,sb,ab,K1,d1,ahi,mx,S2];refine⟨qK2 u,qK2 G,j+2,by simp only[Fa,vvB,Nat.reduceEqDiff,reduceCtorEq,↓reduceIte,p,f3,and_self];exact⟨by rw[show min (j+2) 1=min (j+1) 1 by omega],trivial⟩,rfl,?_,?_⟩
   ·rw[E];exact(z.trans t).then (Ch.put (S:=λj=>j=i) _ _ rfl) λj hj e=>by rw[e]at hj;omega
   ·rw[E];exact a.put _
 ·rintro s fr g Q ⟨rfl,z,w⟩;obtain⟨f3,p,-⟩:=Q;exact⟨by rw[f3,show min s 1=1 by omega],z,w⟩
 ·rintro fr g ⟨f3,z,w⟩;simp only[vvB,Nat.reduceEqDiff,reduceCtorEq,↓reduceIte,afl,f3];refine aX.ret (r:=.slice i 0 1 (.kn n)) (qT0) ⟨?_,z⟩;obtain⟨m,rfl⟩:∃m,n=m+1:=⟨n - 1,by omega⟩
  have hm:b+((m+1:Nat):Int) - 1=b+(m:Int):=by omega
  rw[akR]at w;rw[hm];refine⟨[dK (b,b+(m:Int))],.cons rfl .nil,λd hd=>by simp at hd;subst hd;rfl,⟨rfl,.inr ⟨i,0,_,N 98 f,_,rfl,w.2,by rw[w.1];rfl,λq hq=>?_⟩⟩,λ_ _ _ _ e=>by cases e;show 1<=m+1;omega,λj e=>by cases e;exact Z⟩
  match q,hq with
  |0,_=>rfl
  |1,_=>rfl
  |q+2,h=>exact absurd h (by simp[dK])
 ·intro fr g q;exact q.elim
end
section
variable{B:Nat}{h h' a g:Hp}{pr po pm q:Pos}{vw vu v w:V}{box b:Int}{out:List Tm}{I P0 Pu:Pos->Prop}{t:Tm}{s:List Nat}{n k:Nat}
abbrev al2:List Nat:= [49,58,42]
abbrev tU(box:Int)(l:List (Int×Int)):Tm:=⟨14,box,[],[],l,[]⟩
def aEu(b:Int)(k:Nat):vJ b (k+1)=vJ b k++ [(b+(k:Int),b+(k:Int))]:=by simp[vJ,B!]
def aaA(b:Int)(n:Nat):List Int:=(a! n).map λk:Nat=>b+(k:Int)
def aJL(hk:k<n):(aaA b n)[k]?=some (b+(k:Int)):=by unfold aaA;rw[j!,y! hk];rfl
def bRg(u:Int)(h:Hp):bK [Y U 0,Y U 0] [(0,1,Y U u),(1,1,Y U u)] h=D (.agg (V.ofList (dK (u,u)))) h:=(rfl)
def ay5(k:RdK B h pr po pm vw box vu out v I)(ru:Rws Pu (flat eu) 1 h vu (aaA b n))(ag:∀j,Pu j->j.nat<B)(hn:1<=n/\n<=20)(hb:0<b/\b<100)(hl:out.length<100):
  ∃v' h' I',zB [X pr 0,H al2] h=D (rV out.length true) h'/\Kto B h pr po pm box vu v I h' vw (out++ [tU box [(b,b+(n:Int) - 1)]]) v' I':=by
 have L2:=k.r.ld (q:=2) (x:=vu) rfl;have ab:(aaA b n).length=n:=by simp[aaA]
 have lu:=ru.len;rw[ab]at lu;obtain⟨x,hx,er⟩:=aE4 (h:=h) (s:=al2) (star:=(n:Int)) (r:= [(1,(n:Int))]) (by unfold aGc;rw[if_pos (by omega),if_neg (by decide),if_pos rfl]);obtain rfl:(1,(n:Int))=x:=by simpa using hx
 obtain⟨a,p,Q,-⟩:=mkW h (O (N 98 false) (dK (1,(n:Int))));rw[<-p]at er;have R1:Rws (λj=>j=h.next) (flat dK) 2 a (.slice h.next 0 1 (.kn 1)) [(1,(n:Int))]:=by rw[p];exact Kn.rws (c:=dK) (l:= [(1,(n:Int))]) (cp:=.kn 1) (sz:=2) (Kn.new _ _) (λ_=>rfl) (λ_ _ _ _ e=>by cases e;exact d! _)
 have k1:=k.nw Q;have ae:=ru.nw (aN _) Q;have M:=k1.r.ld (q:=2) (x:=vu) rfl;have n1:a.next.nat=h.next.nat+1:=by rw[p,bG]
 rw[aqR]
 suffices T:aX o! [.tmp 4,.tmp 5] (λr h'=>∃v' I',r=rV out.length true/\Kto B h pr po pm box vu v I h' vw (out++ [tU box [(b,b+(n:Int) - 1)]]) v' I') (XD (T.set (some (H al2)) (g! 1) (T.set (some (X pr 0)) (g! 0) T.nil)) h) by
  obtain⟨r,h',e,v',I',rfl,P⟩:=T;exact⟨v',h',I',e,P⟩
 simp(disch:=omega)only[vvB,seval,XD,Xz,adL,acw,adJ,ad3,L2,M,lu,er];refine Oc.then (dO (σ:=V) (n:=n) (pi:=26) (pn:=25) (pc:=27) [8,24,6,0,7] (λw=> [w,vu,.slice h.next 0 1 (.kn 1),X pr 0,Y U 0]) (λk w g=>Nw a g/\dD a.next.nat (λ_=>False) (flat dK) 98 2 g w (vJ b k))
  (A:=λfr g=>∃w,Fa fr [8,0,7] [w,X pr 0,Y U 0]/\Nw a g/\dD a.next.nat (λ_=>False) (flat dK) 98 2 g w (vJ b n)) (B:=λfr g=>False) (s:=.aQ)
  (λfr h _ k e1 e2=>by simp only[vvB,seval,WI,e1,e2]) (λfr h k _ e1=>by simp(disch:=omega)only[vvB,seval,UR,e1]) (by decide) (by rw[dP];omega) (qK0) (qK0) (by simp only[Fa,vvB,seval,and_self]) ⟨Nw.refl _,dD.nil _ _ _ _ _ _⟩ ?_ ?_) ?_ ?_
 ·rintro j w fr g hj y W E ⟨d,o⟩;obtain⟨C,m,Z,u,z,-⟩:=E;obtain⟨i,q,cs,ix,ex,-,-,-,ld,-⟩:=(ae.nw (aN _) d).elt (aJL hj);obtain rfl:cs=eu (b+(j:Int)):=ex;have G:=ld g rfl 0 (iV (b+(j:Int))) rfl;rw[i!]at G;have ad:∀g,aJ .add .none (Y U (j:Int)) (Y U 1) g=D (iV ((j:Int)+1)) g:=λg=>pK (by omega) (by omega);obtain⟨J,e1,f⟩:=aNj (n:=(j:Int)+1) (R1.nw (aN _) d) (by simp);have aa:inM [(1,(n:Int))] ((j:Int)+1)=true:=by unfold inM;simp;omega
  rw[aa]at e1;have d0:decide (b+(j:Int)>0)=true:=decide_eq_true (by omega);have ac:=d.next;have af:=f.next;obtain⟨w',g2,e2,o2,c2,n2,i2⟩:=(o.nw (aN _) f).apP (bt:=16) (x:=(b+(j:Int),b+(j:Int))) (by omega) rfl (by rw[aaB];omega);have S:bZ 98 2 16 w (.slice J.next 0 1 (.kn 1)) (J.new (O (N 98 true) [iV (b+(j:Int)),iV (b+(j:Int))]))=D w' g2:=e2;simp(disch:=omega)only[vvB,seval,adH,adG,adF,y,m,Z,C,ix,G,ad,e1,d0,bRg,aIo,S];refine⟨qK2 y,qK2 W,w',by simp only[Fa,vvB,seval,m,Z,u,z,and_self],(d.trans f).own c2 λl e=>((o.nw (aN _) f).fF e).1,?_⟩;rw[aEu];exact o2
 ·rintro w fr g E ⟨d,o⟩;obtain⟨C,m,Z,u,z,-⟩:=E;exact⟨w,by simp only[Fa,C,u,z,and_self],d,o⟩
 ·rintro fr g ⟨w,E,d,o⟩;obtain⟨C,u,z,-⟩:=E;obtain⟨vm,J,e1,Rm,cm⟩:=aDb (o.aBZ) hn.1 (by omega) ⟨hb.1,by omega⟩;have ac:=d.next;have kg:=k1.nw d;have km:=kg.nw cm;have Bx:=kg.r.ld (q:=1) (x:=iV box) rfl;have L:=km.r.ld (q:=1) (x:=iV box) rfl;have cN:∀{k:Out},chk (λh=>aG (X pr 1) h) (iV box) k 1 [g]=k:=sN rfl Bx;obtain⟨v',g2,I',e2,P⟩:=alL kg cm (t:=tU box [(b,b+(n:Int) - 1)]) (P0:=λj=>g.next.nat<=j.nat) Rm (Rws.aQ _ (flat eu) 1 J) (λj q=>q) hl;simp(disch:=omega)only[vvB,seval,adD,C,u,z,e1,L,cN,aQq Rm.cell 14 box [(b,b+(n:Int) - 1)],e2];exact aX.ret (r:=rV out.length true) (qT0) ⟨v',I',rfl,P.nwl (Q.trans d)⟩
 ·intro fr g q;exact q.elim
end
section
variable{B:Nat}{h h' p g:Hp}{pr po pm q:Pos}{vw vw1 vu v v1 vk w f:V}{box b:Int}{out ts:List Tm}{I I1 P Pu:Pos->Prop}{t:Tm}{ws:Wds}{s:List Nat}{us:List Int}{n k c:Nat}
def aFS [InK](k:RdK B h pr po pm vw box vu out v I)(tw:WS P h vw ws)(hP:∀j,P j->j.nat<B)(e0:ws.get? 0=some ⟨1,c::s,.nil⟩)(hc:48<=c/\c<=57)
  (Z6:∀(vw':V) (hb:Hp),RdK B hb pr po pm vw' box vu out v I->WS P hb vw' (ws.drop 1)->Ch (λj=>B<=j.nat) h hb->∃v1 p I1,zB [X pr 0,H (c::s)] hb=D (rV out.length true) p/\Kto B hb pr po pm box vu v I p vw' (out++ts) v1 I1):
  MB qf P B h pr po pm box vu v I out ts out.length (ws.drop 1):=by
 have aa:=Wds.C9 e0;obtain⟨j0,q0,vk,ix,ldN⟩:=WS.atN tw e0;have W:∀h',bD 3 vw (Y U 0) h'=D (X j0 q0) h':=ix;obtain⟨vw',e1,t1⟩:=tw.from (k:=1) (by omega)
 have M:∀g,eP 3 vw (some (Y U 1)) none none g=D vw' g:=e1;have L0:=k.r.ld (q:=0) (x:=vw) rfl;have ll:=tw.len h;have hn:decide ((ws.len:Int)=0)=false:=decide_eq_false (by omega);obtain⟨z,Q,y,ka⟩:=mkW h (.cells (.rw 149 true) [Y U 1,H (c::s),vk]);have Sa:aV 3 (X h.next 0) (.agg (.cons (Y U 1) (.cons (H (c::s)) (.cons vk .nil)))) (h.new (.cells (.rw 149 true) [Y U 0,H [],.aQ]))=D V.undef z:=by rw[Q];exact XP rfl rfl rfl
 have l:=k.nw y;have La:=l.r.ld (q:=0) (x:=vw) rfl;obtain⟨a,u⟩:∃p,p=z.put pr (some (.cells (.rw 298 true) [vw',iV box,vu,X po 0,X pm 0])):=⟨_,rfl⟩
 have S1:aV 1 (X pr 0) vw' z=D V.undef a:=by rw[u];exact l.r.st (q:=0) t1.cell (show 0<5 by omega)
 have d:Ch (λj=>j=pr) z a:=by rw[u];exact Ch.put _ _ rfl
 have Z:h.next≠pr:=λe=>by have:=k.r.2;rw[<-e]at this;omega
 have kb:=ka.ch d Z;have C:RdK B a pr po pm vw' box vu out v I:=⟨by rw[u];exact l.r.put _,l.o.ch d λe=>k.ne.1 e.symm,l.m.ch d λe=>k.ne.2.1 e.symm,l.t.ch fZ d (λj e q=>(k.idv j e).1 q) λj _ i=>⟨i,(k.inn j i).2.1⟩,k.ne,k.lo,k.inn,k.idv,G! l.bn d.next,λj i=>Nat.lt_of_lt_of_le (l.ilt j i) d.next⟩
 have tb:WS P a vw' (ws.drop 1):=(t1.ch y λj _ q=>⟨q,λq=>q⟩).ch d λj _ q=>⟨q,λe=>by have:=hP j q;have:=k.lo.1;rw[e] at*;omega⟩
 have W0:=kb.ld (q:=0) (x:=Y U 1) rfl;have W1:=kb.ld (q:=1) (x:=H (c::s)) rfl;have E:Ch (λj=>B<=j.nat) h a:=(y.ch (S:=λj=>B<=j.nat)).trans d λj _ e=>by rw[e];exact k.lo.1
 obtain⟨v1,p,I1,e,Z3⟩:=Z6 vw' a C tb E;have G:decide ((c:Int)=42)=false:=decide_eq_false (by omega);have J:decide ((c:Int)>=48)=true:=decide_eq_true (by omega);have L:decide ((c:Int)<=57)=true:=decide_eq_true (by omega);refine⟨vw',v1,p,I1,?_,Kto.trans (v1:=v) (o1:=out) (I1:=I) (vw1:=vw') ⟨C,(y.ch (S:=λj=>j=pr\/j=po\/bV v=some j)).trans d λj _ q=>.inl q,λj e=>.inl e,λj e=>.inl e⟩ Z3,Z3.wds C hP tb⟩;rw[akg];simp(disch:=omega)only[vvB,seval,alx,aoa,aaY,aaX,ajp,aaV,aaU,aaT,ajL,L0,ll,hn,W,ldN,azs,Sa,La,M,S1,W0,W1,aDN,ard,G,J,L,e];simp only[bU,bT,vvB,seval,bW]<;>rfl
def aCx [InK](k:RdK B h pr po pm vw box vu out v I)(r:WS P h vw ws)(l:∀j,P j->j.nat<B)(e0:ws.get? 0=some ⟨1,al2,.nil⟩)(o:Rws Pu (flat eu) 1 h vu (aaA b n))(a:∀j,Pu j->j.nat<B)(hn:1<=n/\n<=20)(hb:0<b/\b<100)(hl:out.length<90):
  MB qf P B h pr po pm box vu v I out [tU box [(b,b+(n:Int) - 1)]] out.length (ws.drop 1):=
 aFS k r l e0 (by decide) λvw' m i u d=>ay5 i (o.ch (aN _) d λj _ q=>⟨q,λe=>by have:=a j q;omega⟩) a hn hb (by omega)
def _root_.Go.Im.Kto.uids{vw' v':V}{out':List Tm}{I':Pos->Prop}(a:Kto B h pr po pm box vu v I h' vw' out' v' I')(k:RdK B h pr po pm vw box vu out v I)(d:∀j,Pu j->j.nat<B)(t:Rws Pu (flat eu) 1 h vu us):Rws Pu (flat eu) 1 h' vu us:=
 t.ch (aN _) a.c λj _ q=>⟨q,λe=>by
  have:=d j q;rcases e with e|e|e
  ·rw[e]at this;have:=k.lo.1;omega
  ·rw[e]at this;have:=k.lo.2.1;omega
  ·have:=(k.t.fF e).1;omega⟩
def aDE{W:Nat->Wds}{O:Nat->List Tm}{N:Nat->Int}(y:RdK B h pr po pm vw box vu (O 0) v I)(tw:WS P h vw (W 0))(hP:∀j,P j->j.nat<B)(ru:Rws Pu (flat eu) 1 h vu us)(M:∀j,Pu j->j.nat<B)(hn:1<=n/\n<=9)(hW:(W n).len=0)(hO:(O n).length<90)
  (step:∀k,k<n->0<(W k).len/\∃ts,O (k+1)=O k++ts/\∀g vw v I,RdK B g pr po pm vw box vu (O k) v I->WS P g vw (W k)->Rws Pu (flat eu) 1 g vu us->MB PK P B g pr po pm box vu v I (O k) ts (N k) (W (k+1))):
  ∃v' h' I' vw',Tt [X pr 0] h=D (rV (O n).length true) h'/\RdK B h' pr po pm vw' box vu (O n++ [tC ((a! n).map N)]) v' I'/\Ch (λj=>j=pr\/j=po\/bV v=some j) h h':=by
 rw[ati]
 suffices T:aX o! [.tmp 2,.tmp 3] (λr h'=>∃v' I' vw',r=rV (O n).length true/\RdK B h' pr po pm vw' box vu (O n++ [tC ((a! n).map N)]) v' I'/\Ch (λj=>j=pr\/j=po\/bV v=some j) h h') (abj (T.set (some (X pr 0)) (g! 0) T.nil) h) by
  obtain⟨r,h',e,v',I',vw',rfl,C⟩:=T;exact⟨v',h',I',vw',e,C⟩
 simp only[vvB,seval,abj,aoa,ab5];have St:∀(k:Nat) (w:V) (g:Hp),True:=λ_ _ _=>trivial;refine Oc.then (dW (n:=n) (λm fr g=>∃(k:Nat) (w vw1 v1:V) (I1:Pos->Prop),k+m=n/\fr.get (g! 0)=some (X pr 0)/\fr.get (g! 4)=some w/\RdK B g pr po pm vw1 box vu (O k) v1 I1/\WS P g vw1 (W k)/\Rws Pu (flat eu) 1 g vu us/\dD h.next.nat (λ_=>False) (flat eu) 3 1 g w ((a! k).map N)/\(∀j,bV w=some j->bV v1≠some j/\¬I1 j)/\Ch (λj=>j=pr\/j=po\/bV v=some j) h g/\(∀j,bV v1=some j->bV v=some j\/h.next.nat<=j.nat))
  (A:=λfr g=>∃(w vw1 v1:V) (I1:Pos->Prop),fr.get (g! 0)=some (X pr 0)/\fr.get (g! 4)=some w/\RdK B g pr po pm vw1 box vu (O n) v1 I1/\dD h.next.nat (λ_=>False) (flat eu) 3 1 g w ((a! n).map N)/\(∀j,bV w=some j->bV v1≠some j/\¬I1 j)/\Ch (λj=>j=pr\/j=po\/bV v=some j) h g/\(∀j,bV v1=some j->bV v=some j\/h.next.nat<=j.nat)) (B:=λ_ _=>False) (by rw[dP];omega) ?_ ?_) ?_ ?_
 ·exact⟨0,.aQ,vw,v,I,by omega,qK0,qK0,y,tw,ru,dD.nil _ _ _ _ _ _,λj e=>(by cases e),Ch.refl _ _,λj e=>.inl e⟩
 ·rintro m fr g ⟨k,w,vw1,v1,I1,hk,G,f4,C,T,R,o,hd,J,Q⟩;have L:=C.r.ld (q:=0) (x:=vw1) rfl;have ll:=T.len g;by_cases hz:k=n
  ·subst hz;have d:decide (((W k).len:Int)>0)=false:=decide_eq_false (by omega);simp(disch:=omega)only[vvB,seval,VE,UU,G,L,ll,d];exact⟨rfl,w,vw1,v1,I1,qK2 G,qK2 f4,C,o,hd,J,Q⟩
  ·obtain⟨ae,ts,ab,st⟩:=step k (by omega);obtain⟨S,v2,E,I2,e,z,T2⟩:=st g vw1 v1 I1 C T R;have d:decide (((W k).len:Int)>0)=true:=decide_eq_true (by omega);have ag:=J.next;have af:=z.c.next;have kb:=y.bn;have o1:dD h.next.nat (λ_=>False) (flat eu) 3 1 E w ((a! k).map N):=o.ch (aN _) z.c (λj e q=>by
    have hj:=(o.fF e).1;rcases q with q|q|q
    ·rw[q]at hj;have:=y.r.2;omega
    ·rw[q]at hj;have:=y.o.2;omega
    ·exact(hd j e).1 q) λj _ q=>q.elim
   obtain⟨w',g2,e2,o2,Z,n2,i2⟩:=o1.apP (bt:=8) (x:=N k) (by omega) rfl (by simp;omega);have ad:(λj=>O j) (k+1)=O (k+1):=rfl;have aa:bZ 3 1 8 w (.slice E.next 0 1 (.kn 1)) (E.new (.cells (.rw 3 true) [iV (N k)]))=D w' g2:=e2;have u:∀j,bV w=some j->h.next.nat<=j.nat/\j.nat<g.next.nat:=λj e=>o.fF e;have Kf:RdK B g2 pr po pm S box vu (O (k+1)) v2 I2:=by
    rw[ab];refine z.k.chS Z (λq=>?_) (λq=>?_) (λq=>?_) (λj a q=>?_) λj a q=>?_
    ·have:=(u _ q).1;have:=y.r.2;omega
    ·have:=(u _ q).1;have:=y.o.2;omega
    ·have:=(u _ q).1;have:=y.m.2;omega
    ·exact(z.v j a).elim (λa=>(hd j q).1 a) λl=>by have:=(u j q).2;omega
    ·exact(z.i j a).elim (λa=>(hd j q).2 a) λl=>by have:=(u j q).2;omega
   simp(disch:=omega)only[vvB,seval,VE,UU,af6,af5,af4,G,f4,L,ll,d,e,amK,aa];refine⟨m - 1,by omega,k+1,w',S,v2,I2,by omega,qK2 G,qK0,Kf,T2.ch Z λj _ q=>⟨q,λq'=>?_⟩,(z.uids C M R).ch (aN _) Z λj _ q=>⟨q,λq'=>?_⟩,?_,λj a=>⟨λa'=>?_,λa'=>?_⟩,?_,λj a=>?_⟩
   ·have:=(u j q').1;have:=hP j q;omega
   ·have:=(u j q').1;have:=M j q;omega
   ·rw[B!,List.map_append];exact o2
   ·have:=i2 j a;have:=(z.k.t.fF a').2;omega
   ·have:=i2 j a;have:=z.k.ilt j a';omega
   ·refine(J.trans z.c λj hj q=>?_).trans Z λj hj q=>?_
    ·rcases q with q|q|q
     ·exact .inl q
     ·exact .inr (.inl q)
     ·exact(Q j q).elim (λq=>.inr (.inr q)) λl=>by omega
    ·have:=(u j q).1;omega
   ·exact(z.v j a).elim (Q j) λl=>.inr (by omega)
 ·rintro fr g ⟨w,vw1,v1,I1,G,f4,C,o,hd,J,Q⟩;have ol:=o.len g;rw[t!,z!]at ol;have u:∀j,bV w=some j->h.next.nat<=j.nat/\j.nat<g.next.nat:=λj e=>o.fF e;have hl:((a! n).map N).length=n:=by simp
  have rk:Rws (λj=>bV w=some j) (flat eu) 1 g w ((a! n).map N):=by
   obtain⟨i,f,e,_,kn⟩:=o.open (λe=>by rw[e]at hl;simp at hl;omega);subst e;have:=Kn.rws (c:=eu) (l:=(a! n).map N) (cp:=.un 1) (sz:=1) kn (λ_=>rfl) (λ_ _ _ _ e=>by cases e;exact rfl);exact this.ch (aN _) (Nw.refl g) λj _ q=>⟨by rw[q];rfl,λq=>q⟩
  obtain⟨v',E,I',e,K'⟩:=aoO C 1 rk (λj _ q=>by
   have:=u j q;have bb:=y.bn;have a:=y.r.2;have b:=y.o.2;have c:=y.m.2;exact⟨by omega,λe=>by rw[e]at this;omega,λe=>by rw[e]at this;omega,λe=>by rw[e]at this;omega,(hd j q).1⟩) (by omega)
  have ac:aZ 2 w E=D (Y U (n:Int)) E:=by
   have:=o.aBZ.len;rw[t!,z!]at this;exact this E
  have d:decide ((n:Int)>0)=true:=decide_eq_true (by omega);simp(disch:=omega)only[vvB,seval,af2,G,f4,e,ac,d];refine aX.ret (r:=rV (O n).length true) (qT0) ⟨v',I',vw1,rfl,K'.k,J.trans K'.c λj hj q=>?_⟩;rcases q with q|q|q
  ·exact .inl q
  ·exact .inr (.inl q)
  ·exact(Q j q).elim (λq=>.inr (.inr q)) λl=>by omega
 ·intro fr g q;exact q.elim
end
section
variable{B:Nat}{h h' c g:Hp}{pr po pm q:Pos}{vw vu v:V}{box b:Int}{out ts:List Tm}{I P Pu:Pos->Prop}{t:Tm}{ws:Wds}{us:List Int}{n k m:Nat}
def aIr(box:Int)(us:List Int)(ws:Wds)(out ts:List Tm)(n:Int)(a:Wds):Prop:=
 ∀(P Pu:Pos->Prop) (B:Nat) (g:Hp) (pr po pm:Pos) (vw vu v:V) (I:Pos->Prop),(∀j,P j->j.nat<B)->(∀j,Pu j->j.nat<B)->RdK B g pr po pm vw box vu out v I->WS P g vw ws->Rws Pu (flat eu) 1 g vu us->MB PK P B g pr po pm box vu v I out ts n a
structure KLine (box:Int) (us:List Int) (n:Nat) (W:Nat->Wds) (O:Nat->List Tm) (N:Nat->Int):Prop where
 n1:1<=n/\n<=9
 o0:O 0= []
 we:(W n).len=0
 ol:(O n).length<30
 st:∀k,k<n->0<(W k).len/\∃ts,O (k+1)=O k++ts/\aIr box us (W k) (O k) ts (N k) (W (k+1))
def aFQ{W:Nat->Wds}{O:Nat->List Tm}{N:Nat->Int}(hk:KLine box us n W O N)(Z:WS P h vw (W 0))(Q:Rws Pu (flat eu) 1 h vu us):
  ∃v' h',HY [vw,Y U box,vu] h=D (.tuple (.cons v' (.cons (K false) (.cons (Y U 0) .nil)))) h'/\Rws (λj=>h.next.nat<=j.nat) tmE 6 h' v' (O n++ [tC ((a! n).map N)])/\Nw h h':=by
 obtain⟨hn,o0,hW,hO,st⟩:=hk;obtain⟨c,s,c1,-⟩:=mkW h (.cells (.rw 195 true) [.aQ]);obtain⟨hx,w,cx,kx⟩:=mkW c (.cells (.rw 4 true) [K false]);obtain⟨f,l⟩:∃f,f=hx.put c.next (some (.cells (.rw 4 true) [K false])):=⟨_,rfl⟩
 obtain⟨z,J,y,k3⟩:=mkW f (.cells (.rw 298 true) [vw,iV box,vu,X h.next 0,X c.next 0]);have E:Nw c f:=by rw[l];exact cx.put (d! _) _
 have k1:Kn c h.next (.cells (.rw 195 true) [.aQ]):=by rw[s];exact Kn.new _ _
 have k2:Kn f c.next (.cells (.rw 4 true) [K false]):=by rw[l];exact kx.put _
 have n1:c.next.nat=h.next.nat+1:=by rw[s,bG]
 have n2:f.next.nat=c.next.nat+1:=by rw[l,jJ,w,bG]
 have ne:∀{a b:Pos},a.nat≠b.nat->a≠b:=λq e=>q (by rw[e]);have K0:RdK h.next.nat z f.next h.next c.next vw box vu (O 0) .aQ (λ_=>False):=by
  rw[o0];exact⟨k3,k1.nw (E.trans y),k2.nw y,dD.nil _ _ _ _ _ _,⟨ne (by omega),ne (by omega),ne (by omega)⟩,⟨by omega,d! _,by omega⟩,λ_ q=>q.elim,λ_ e=>(by cases e),((c1.trans E).trans y).next,λ_ q=>q.elim⟩
 have p:=(c1.trans E).trans y;have aa:WS (λj=>P j/\j.nat<h.next.nat) z vw (W 0):=Z.ch p λj hj q=>⟨⟨q,hj⟩,λq=>q⟩
 have S:Rws (λj=>Pu j/\j.nat<h.next.nat) (flat eu) 1 z vu us:=Q.ch (aN _) p λj hj q=>⟨⟨q,hj⟩,λq=>q⟩
 obtain⟨v',G,I',vw',e4,u,c4⟩:=aDE (W:=W) (O:=O) (N:=N) K0 aa (λj q=>q.2) S (λj q=>q.2) hn hW (by omega) λk hk=>by
  obtain⟨a,ts,b,d⟩:=st k hk;exact⟨a,ts,b,λg vw v I q t r=>d _ _ _ g _ _ _ vw vu v I (λj q=>q.2) (λj q=>q.2) q t r⟩
 have C:Nw h G:=p.then c4 λj hj q=>by
  rcases q with q|q|q
  ·rw[q]at hj;omega
  ·rw[q]at hj;omega
  ·cases q
 have L0:=u.o.ld (q:=0) (x:=v') rfl;have L1:=u.m.ld (q:=0) (x:=K false) rfl;have LL:=u.t.len G;have d:decide (((O n++ [tC ((a! n).map N)]).length:Int)>40)=false:=decide_eq_false (by simp;omega);have L:∀h,eY 195 [.aQ] h=D (X h.next 0) (h.new (.cells (.rw 195 true) [.aQ])):=λh=>rfl;have M:∀h,eY 4 [K false] h=D (X h.next 0) (h.new (.cells (.rw 4 true) [K false])):=λh=>rfl;have S2:aV 1 (X c.next 0) (K false) hx=D V.undef f:=by rw[l];exact kx.st (q:=0) ⟨rfl,rfl⟩ (by simp)
 have bB:bK [.aQ,Y U 0,.aQ,.cZ,.cZ] [(0,1,vw),(1,1,Y U box),(2,1,vu),(3,1,X h.next 0),(4,1,X c.next 0)] f=D (.agg (V.ofList [vw,iV box,vu,X h.next 0,X c.next 0])) f:=by
  unfold bK;simp only[Ir,Z.cell.1,Z.cell.2,Q.cell.1,Q.cell.2];rfl
 have oB:eU 298 (.agg (V.ofList [vw,iV box,vu,X h.next 0,X c.next 0])) f=D (X f.next 0) z:=by rw[o8,V.dB,J]
 refine⟨v',G,?_,?_,C⟩
 ·rw[axH];simp(disch:=omega)only[vvB,seval,asn,ajC,ajB,ajA,ajz,ajy,ajx,ajw,ajv,L,M,<-s,<-w,S2,bB,oB,e4,L0,L1,LL,d];simp only[bU,bT,vvB,seval,bW]<;>rfl
 ·exact(u.t.rows fZ (λj _ i=>(u.inn j i).1) λj q _=>q)
end
section
variable{box b:Int}{ts:List Tm}{ws:Wds}{s nm:List Nat}{us:List Int}{n:Nat}{m:Int}
def KLine.one(hl:0<ws.len)(ht:ts.length<30)(k:aIr box us ws [] ts m .nil):KLine box us 1 (λk=>match k with|0=>ws|_=>.nil) (λk=>match k with|0=> []|_=>ts) (λ_=>m) where
 n1:=⟨d! _,by decide⟩
 o0:=rfl
 we:=rfl
 ol:=ht
 st:=λk hk=>by
  obtain rfl:k=0:=by omega
  exact⟨hl,ts,rfl,k⟩
abbrev V6(s:List Nat):Wds:=.cons 1 s .nil .nil
def azI{c:Nat}(f:65<=c)(hb:∀x∈c::s,x<256)(a:s.length<1000)(h:foldM (c::s)=aBY):KLine box us 1 (λk=>match k with|0=>V6 (c::s)|_=>.nil) (λk=>match k with|0=> []|_=> [tK gZ]) (λ_=>0):=
 .one (D!) (by simp) λP Pu B g pr po pm vw vu v I d e k t r=>by
  letI:InK:=lvK 1
  exact aGB k t d rfl f hb a h (by simp)
def aEa{c:Nat}(f:65<=c)(hb:∀x∈c::s,x<256)(a:s.length<1000)(h:foldM (c::s)=aoS):KLine box us 1 (λk=>match k with|0=>V6 (c::s)|_=>.nil) (λk=>match k with|0=> []|_=> [tK gZ,tN 0]) (λ_=>1):=
 .one (D!) (by simp) λP Pu B g pr po pm vw vu v I d e k t r=>by
  letI:InK:=lvK 1
  exact aCw k t d rfl f hb a h (by simp)
abbrev aBO(nm:List Nat):Wds:=.cons 1 [83,85,66,74,69,67,84] .nil (.cons 1 nm .nil .nil)
def aJa:KLine box us 1 (λk=>match k with|0=>aBO nm|_=>.nil) (λk=>match k with|0=> []|_=> [tH ji nm]) (λ_=>0):=
 .one (Nat.zero_lt_succ _) (by simp) λP Pu B g pr po pm vw vu v I a c k t r=>by
  letI:InK:=lvK 1
  exact aGA k t a rfl (by decide) (by decide) (by decide) (by decide) rfl (by simp)
abbrev aBP:Wds:=.cons 1 al2 .nil (.cons 1 aGp .nil (.cons 1 aHh .nil .nil))
def aJb(hn:1<=n/\n<=20)(hb:0<b/\b<100):KLine box (aaA b n) 2 (λk=>match k with|0=>aBP|1=>.cons 1 aGp .nil (.cons 1 aHh .nil .nil)|_=>.nil) (λk=>match k with|0=> []|1=> [tU box [(b,b+(n:Int) - 1)]]|_=> [tU box [(b,b+(n:Int) - 1)],tC [],tN 1]) (λk=>match k with|0=>0|_=>2) where
 n1:=⟨by decide,by decide⟩
 o0:=rfl
 we:=rfl
 ol:=by simp
 st:=λk hk=>by
  match k,hk with
  |0,_=>
   refine⟨by decide,_,rfl,λP Pu B g pr po pm vw vu v I c a k t r=>?_⟩
   letI:InK:=lvK 1
   exact aCx k t c rfl r a hn hb (by simp)
  |1,_=>exact⟨by decide,[tC [],tN 1],rfl,λP Pu B g pr po pm vw vu v I c a k t r=>aJd k t c rfl rfl (by simp)⟩
  |k+2,hk=>exact absurd hk (by omega)
inductive Flt (box:Int) (us:List Int):Wds->List Tm->Prop
 |mk {n:Nat} {W:Nat->Wds} {O:Nat->List Tm} {N:Nat->Int} (k:KLine box us n W O N):Flt box us (W 0) (O n++ [tC ((a! n).map N)])
def aGQ:Flt box us (V6 [83,69,69,78]) [tK gZ,tC [0]]:=.mk (azI (by decide) (by decide) (by decide) (by decide))
def aGP:Flt box us (V6 [115,101,101,110]) [tK gZ,tC [0]]:=.mk (azI (by decide) (by decide) (by decide) (by decide))
def aEh:Flt box us (V6 [85,78,83,69,69,78]) [tK gZ,tN 0,tC [1]]:=.mk (aEa (by decide) (by decide) (by decide) (by decide))
def aJr:Flt box us (aBO nm) [tH ji nm,tC [0]]:=.mk aJa
def aJs(hn:1<=n/\n<=20)(hb:0<b/\b<100):Flt box (aaA b n) aBP [tU box [(b,b+(n:Int) - 1)],tC [],tN 1,tC [0,2]]:=.mk (aJb hn hb)
def aHE{h:Hp}{P Pu:Pos->Prop}{vw vu:V}(k:Flt box us ws ts)(c:WS P h vw ws)(a:Rws Pu (flat eu) 1 h vu us):
  ∃v' h',HY [vw,Y U box,vu] h=D (.tuple (.cons v' (.cons (K false) (.cons (Y U 0) .nil)))) h'/\Rws (λj=>h.next.nat<=j.nat) tmE 6 h' v' ts/\Nw h h':=by
 cases k with
 |mk k=>exact aFQ k c a
end
end Go.Proofs.Im
namespace Go.Vm
def auU{h:Hp}{z:V}{n bt:Nat}{el:TypeId}(hn:n*bt<=140737488355328):xR el bt [z] (Y U (n:Int)) (Y U (n:Int)) h=D (.slice h.next 0 n (.kn n)) (h.new (.cells (N el true) (times n [z]))):=by
 show(match p! n n,p! (Nat.mul n bt) 140737488355328 with
  |true,true=>R.ok (V.slice h.next 0 n (.kn n)) (h.new (.cells (N el true) (times n [z])))
  |_,_=>.bad)=_
 rw[c! (d! n),show p! (Nat.mul n bt) 140737488355328=true from c! hn]
end Go.Vm
namespace Go.Im
def NZ(k:Nat):List Int->List Int->Option (List Int)
 | [],cs=>some cs
 |c::l,cs=>if 0<=c/\c<(k:Int)/\cs[c.toNat]?=some 0 then NZ k l (cs.set c.toNat 1) else none
def termsM:Nat->List Tm->List Int->Option (List Int)
 |_,[],cs=>some cs
 |k,t::l,cs=>if 1<=t.kind/\t.kind<=16 then(match NZ k t.kids cs with|some cs=>termsM (k+1) l cs|none=>none) else none
def Right(ts:List Tm):Prop:=termsM 0 ts (b! ts.length 0)=some (b! (ts.length - 1) 1++ [0])
def arp{k:Nat}:∀{l cs a:List Int},NZ k l cs=some a->a.length=cs.length
 | [],cs,a,e=>by cases e;rfl
 |c::l,cs,a,e=>by
  unfold NZ at e;split at e
  ·rw[arp e,C!]
  ·cases e
def axS{k:Nat}{t:Tm}{l:List Tm}{cs a:List Int}(e:termsM k (t::l) cs=some a):(1<=t.kind/\t.kind<=16)/\∃c,NZ k t.kids cs=some c/\termsM (k+1) l c=some a:=by
 unfold termsM at e;split at e
 ·rename_i hk;cases e1:NZ k t.kids cs with
  |none=>rw[e1]at e;cases e
  |some c=>rw[e1]at e;exact⟨hk,c,rfl,e⟩
 ·cases e
def aCu{k:Nat}{c:Int}{l cs a:List Int}(e:NZ k (c::l) cs=some a):(0<=c/\c<(k:Int)/\cs[c.toNat]?=some 0)/\NZ k l (cs.set c.toNat 1)=some a:=by
 unfold NZ at e;split at e
 ·rename_i h;exact⟨h,e⟩
 ·cases e
end Go.Im
namespace Go.Proofs.Im
section
variable{h h' b g:Hp}{v vs vk:V}{P:Pos->Prop}{ts:List Tm}
def FQ(n:Nat):times n [Y U 0]=(b! n (0:Int)).map iV:=by
 induction n with
 |zero=>rfl
 |succ n a=>rw[List.replicate_succ,v!,<-a];rfl
def Oc.rd{σ:Type}{ks:List Nat}{L:σ->List V}{pi pn k n:Nat}{I:σ->Hp->Prop}{A B A':F->Hp->Prop}{id:Nat}{o:Out}(O:Oc A' (λ_ _=>False) o)(a:∀fr h,A' fr h->Rd ks L pi pn k n I A B id (.nor fr h)):Rd ks L pi pn k n I A B id (yc 1 o):=by
 cases o with
 |nor fr h=>exact a fr h O
 |ret fr h=>exact O.elim
 |ex m fr h=>exact O.elim
 |bad=>exact O.elim
def aDc(r:Rws P tmE 6 h v ts)(hr:Right ts)(hn:1<=ts.length/\ts.length<=40)(ao:∀t∈ts,t.kids.length<=40):∃h',Td [v] h=D (K true) h'/\Nw h h':=by
 have r:Rws (λj=>j.nat<h.next.nat) tmE 6 h v ts:=r.ch fZ (Nw.refl h) λj hj _=>⟨hj,λq=>q⟩
 obtain⟨n,C⟩:∃n,n=ts.length:=⟨_,rfl⟩
 rw[<-C]at hn;unfold Right at hr;rw[<-C]at hr;have ln:=r.len;rw[<-C]at ln;obtain⟨b,an,c1,k1⟩:=mkW h (.cells (N 3 true) ((b! n (0:Int)).map iV));have B1:xR 3 8 [Y U 0] (Y U (n:Int)) (Y U (n:Int)) h=D (.slice h.next 0 n (.kn n)) b:=by rw[an,<-FQ];exact auU (by omega)
 have aj:decide ((n:Int)>40)=false:=decide_eq_false (by omega);have oN:∀g,eY 371 [Y U 0,Y U 0,H [],H [],.aQ,.aQ] g=D (X g.next 0) (g.new (.cells (N 371 true) zTm)):=λg=>rfl;rw[atd]
 suffices T:aX o! [.tmp 2] (λr h'=>r=K true/\Nw h h') (abg (T.set (some v) (g! 0) T.nil) h) by
  obtain⟨r,h',e,rfl,c⟩:=T;exact⟨h',e,c⟩
 simp(disch:=omega)only[vvB,seval,abg,aiG,afP,afO,afE,agP,ln,aj,B1];refine Oc.then (dO (σ:=List Int) (n:=n) (pi:=17) (pn:=16) (pc:=18) [0,3,15] (λ_=> [v,.slice h.next 0 n (.kn n),v]) (λk cs g=>Nw h g/\Kn g h.next (.cells (N 3 true) (cs.map iV))/\cs.length=n/\termsM k (ts.drop k) cs=some (b! (n - 1) 1++ [0]))
  (A:=λfr g=>Fa fr [0,3] [v,.slice h.next 0 n (.kn n)]/\Nw h g/\Kn g h.next (.cells (N 3 true) ((b! (n - 1) (1:Int)++ [0]).map iV))) (B:=λfr g=>False) (s:=b! n 0)
  (λfr h _ k e1 e2=>by simp only[vvB,seval,afD,e1,e2]) (λfr h k _ e1=>by simp(disch:=omega)only[vvB,seval,acQ,e1]) (by decide) (by rw[dP];omega) (qK0) (qK0) (by simp only[Fa,vvB,seval,and_self]) ⟨c1,k1,w!,hr⟩ ?_ ?_) ?_ ?_
 ·rintro k cs fr g hk l w z ⟨J,kg,S,Z⟩;obtain⟨u,f3,f,-⟩:=z;obtain⟨t,ht⟩:∃t,ts[k]?=some t:=⟨_,k! (by omega)⟩
  rw[u! (by omega:k<ts.length),show ts[k]'(by omega)=t from(e!.1 ht).2]at Z;obtain⟨az,G,af,Z⟩:=axS Z;obtain⟨i,q,tc,ix,ex,av,-,-,-,ld⟩:=(r.nw fZ J).elt ht;obtain⟨vs,vk,rfl,rs,rk⟩:=ex;have aB:t.kids.length<=40:=ao t (x! ht);have aq:=ld g rfl;obtain⟨g1,am,M,kE⟩:=mkW g (.cells (N 371 true) (tmC t vs vk));have S1:=mkT 6 zTm am;have E0:=kE.ld (q:=0) (x:=iV t.kind) rfl;have E5:=kE.ld (q:=5) (x:=vk) rfl;have d1:decide (t.kind<1)=false:=decide_eq_false (by omega);have ai:decide (t.kind>16)=false:=decide_eq_false (by omega);have ah:=rk.nw (aN _) M;have lk:=ah.len;have aD:=J.next;simp(disch:=omega)only[vvB,seval,afL,afK,afJ,adX,l,f,ix,aq,oN,S1,E0,E5,d1,ai,lk];refine Oc.rd (A':=λfr g=>Fa fr [0,3,15,17,16] [v,.slice h.next 0 n (.kn n),v,Y U (k:Int),Y U (n:Int)]/\Nw h g/\Kn g h.next (.cells (N 3 true) (G.map iV))) (dO (σ:=List Int) (n:=t.kids.length) (pi:=33) (pn:=32) (pc:=34) [0,3,15,17,16,4,31] (λ_=> [v,.slice h.next 0 n (.kn n),v,Y U (k:Int),Y U (n:Int),Y U (k:Int),vk]) (λj cs p=>Ch (λq=>q=h.next) g1 p/\Nw h p/\Kn p h.next (.cells (N 3 true) (cs.map iV))/\cs.length=n/\NZ k (t.kids.drop j) cs=some G)
   (B:=λfr g=>False) (s:=cs)
   (λfr h _ k e1 e2=>by simp only[vvB,seval,ac3,e1,e2]) (λfr h k _ e1=>by simp(disch:=omega)only[vvB,seval,acZ,e1]) (by decide) (by rw[dP];omega) (qK0) (qK0) (by simp only[Fa,vvB,seval,l,w,u,f3,f,and_self]) ⟨Ch.refl _ _,J.trans M,kg.nw M,S,af⟩ ?_ ?_) ?_
  ·rintro j E fr p hj ab al z ⟨cj,y,kj,ac,o⟩;obtain⟨u,f3,f,l,w,f4,Q,-⟩:=z;obtain⟨c,hc⟩:∃c,t.kids[j]?=some c:=⟨_,k! hj⟩
   rw[u! hj,show t.kids[j]=c from(e!.1 hc).2]at o;obtain⟨⟨aw,ax,ae⟩,o⟩:=aCu o;obtain⟨a,rfl⟩:∃a:Nat,c=(a:Int):=⟨c.toNat,by omega⟩
   rw[Int.toNat_natCast]at ae o;have au:=ah.ch (P':=λ_=>True) (aN _) cj λj hj q=>⟨trivial,λe=>by rw[e]at q;omega⟩
   obtain⟨i',q',cc,ap,ak,-,-,-,ar,-⟩:=au.elt hc;obtain rfl:cc=eu (a:Int):=ak;have I:=ar p rfl 0 (iV (a:Int)) rfl;rw[i!]at I;have dz:decide ((a:Int)<0)=false:=decide_eq_false (by omega);have dk:decide ((a:Int)>=(k:Int))=false:=decide_eq_false (by omega);have aa:∀g,bD 1 (.slice h.next 0 n (.kn n)) (Y U (a:Int)) g=D (X h.next a) g:=λg=>by rw[sZ (by omega),H!]
   have L:=kj.ld (q:=a) (x:=iV 0) (by rw[j!,ae];rfl);have ad:∀g,aJ .add .none (Y U 0) (Y U 1) g=D (iV 1) g:=λg=>rfl;obtain⟨g2,W⟩:∃g2,g2=p.put h.next (some (.cells (N 3 true) ((E.set a 1).map iV))):=⟨_,rfl⟩
   have St:aV 1 (X h.next a) (iV 1) p=D V.undef g2:=by
    rw[W,List.map_set];exact kj.st (q:=a) ⟨rfl,rfl⟩ (by rw[t!];omega)
   have c2:Ch (λq=>q=h.next) p g2:=by rw[W];exact Ch.put _ _ rfl
   simp(disch:=omega)only[vvB,seval,ac2,ac1,ac0,ab,Q,f3,f4,ap,I,dz,dk,aa,L,ad,St];refine⟨qK2 ab,qK2 al,E.set a 1,by simp only[Fa,vvB,seval,u,f3,f,l,w,f4,Q,and_self],cj.trans c2 λ_ _ q=>q,y.then c2 λj hj e=>by rw[e]at hj;omega,by rw[W];exact kj.put _,by rw[C!];exact ac,o⟩
  ·rintro E fr p z ⟨cj,y,kj,ac,o⟩;obtain⟨u,f3,f,l,w,f4,Q,-⟩:=z;rw[A!]at o;obtain rfl:E=G:=by cases o;rfl
   exact⟨by simp only[Fa,u,f3,f,l,w,and_self],y,kj⟩
  ·rintro fr p ⟨z,y,kj⟩;obtain⟨u,f3,f,l,w,-⟩:=z;exact⟨l,w,G,by simp only[Fa,u,f3,f,and_self],y,kj,by rw[arp af,S],Z⟩
 ·rintro cs fr g z ⟨J,kg,S,Z⟩;obtain⟨u,f3,f,-⟩:=z;rw[C,A!,<-C]at Z;obtain rfl:cs=b! (n - 1) 1++ [0]:=by cases Z;rfl
  exact⟨by simp only[Fa,u,f3,and_self],J,kg⟩
 ·rintro fr g ⟨z,J,kg⟩;obtain⟨u,f3,-⟩:=z;simp(disch:=omega)only[vvB,seval,acX,adW];refine Oc.then (dW (n:=n - 1) (λm fr p=>∃i:Nat,i+m+1=n/\fr.get (g! 0)=some v/\fr.get (g! 3)=some (.slice h.next 0 n (.kn n))/\fr.get (g! 8)=some (Y U (i:Int))/\p=g)
   (A:=λfr p=>p=g) (B:=λ_ _=>False) (by rw[dP];omega) ?_ ?_) ?_ ?_
  ·exact⟨0,by rw[h!];exact Nat.sub_add_cancel hn.1,qK2 u,qK2 f3,qK1,rfl⟩
  ·rintro m fr p ⟨i,ay,u,f3,f8,rfl⟩;have ag:∀g,aZ 2 v g=D (Y U (n:Int)) g:=ln;have ad:∀g,aJ .add .none (Y U (i:Int)) (Y U 1) g=D (iV ((i:Int)+1)) g:=λg=>pK (by omega) (by omega);by_cases hz:m=0
   ·have d:decide ((i:Int)+1<(n:Int))=false:=decide_eq_false (by omega);simp(disch:=omega)only[vvB,seval,QC,u,f8,ad,ag,d];exact⟨rfl,rfl⟩
   ·have d:decide ((i:Int)+1<(n:Int))=true:=decide_eq_true (by omega);have aa:∀g,bD 1 (.slice h.next 0 n (.kn n)) (Y U (i:Int)) g=D (X h.next i) g:=λg=>by rw[sZ (by omega),H!]
    have L:=kg.ld (q:=i) (x:=iV 1) (by rw[j!,List.getElem?_append_left (by rw[w!];omega),List.getElem?_replicate,if_pos (by omega)];rfl);have d1:decide ((1:Int)≠1)=false:=by decide
    simp(disch:=omega)only[vvB,seval,QC,acV,KQ,u,f8,f3,ad,ag,d,aa,L,d1];exact⟨m - 1,by omega,i+1,by omega,qK2 u,qK2 f3,qK1,rfl⟩
  ·rintro fr p rfl;simp(disch:=omega)only[vvB,seval,acU];exact aX.ret (r:=K true) (qT0) ⟨rfl,J⟩
  ·intro fr g q;exact q.elim
 ·intro fr g q;exact q.elim
end
def am0 [InH]{α:Type}{P:Pos->Prop}{E:El α}{h:Hp}{v f:V}{l:List α}(r:Rws P E 1 h v l)(hE:E.Stable)(p:α->Bool)(hn:l.length<=1000000000)
  (hf:∀a x g,a∈l->Nw h g->E P g a [x]->∃G,dn qj f [x] g=D (K (p a)) G/\Nw g G):
  ∃h',vY [v,f] h=D (Y U (gB (l.findIdx? p))) h'/\Nw h h':=by
 rw[abE]
 suffices T:aX o! [.tmp 4] (λr h'=>r=Y U (gB (l.findIdx? p))/\Nw h h') (DW (T.set (some f) (g! 1) (T.set (some v) (g! 0) T.nil)) h) by
  obtain⟨r,h',e,rfl,c⟩:=T;exact⟨h',e,c⟩
 simp(disch:=omega)only[vvB,seval,DW,awX,KX,r.len,Lr];refine Oc.then (dO (σ:=Unit) (n:=l.length) (pi:=8) (pn:=7) (pc:=9) [0,1] (λ_=> [v,f]) (λk _ g=>Nw h g/\(l.take k).findIdx? p=none)
  (A:=λfr g=>Nw h g/\l.findIdx? p=none) (B:=λfr g=>fr.get (g! 4)=some (Y U (gB (l.findIdx? p)))/\Nw h g) (s:=())
  (λfr h _ k e1 e2=>by simp only[vvB,seval,KW,e1,e2]) (λfr h k _ e1=>by simp(disch:=omega)only[vvB,seval,KQ,e1]) (by decide) (by rw[dP];omega) (qK0) (qK0) (by simp only[Fa,vvB,seval,and_self]) ⟨Nw.refl _,by simp⟩ ?_ ?_) ?_ ?_
 ·intro k _ fr g hk C f7 Q I;obtain⟨M,f1,-⟩:=Q;obtain⟨c,o⟩:=I;obtain⟨x,z⟩:∃x,l[k]?=some x:=⟨_,k! hk⟩
  obtain⟨i,q,cs,e1,ex,hc,hi,-,S,-⟩:=(r.nw hE c).elt z;obtain⟨y,rfl⟩:=apn hc;obtain⟨G,W,L⟩:=hf x y g (x! z) c ex;have Z:aG (X i q) g=D y g:=S g rfl 0 y rfl;simp(disch:=omega)only[vvB,seval,KU,Ky,M,f1,C,e1,Z,W];by_cases J:p x=true
  ·simp only[vvB,seval,J,KR,C];refine⟨?_,c.trans L⟩;simp only[vvB,seval];rw[lK z o J];rfl
  ·have w:p x=false:=by simpa using J
   simp only[vvB,seval,w];refine⟨qK2 C,qK2 f7,(),by simp only[Fa,vvB,seval,M,f1,and_self],c.trans L,?_⟩;rw[List.take_add_one,z];simp[List.findIdx?_append,o,w]
 ·intro _ fr g Q I;obtain⟨c,o⟩:=I;rw[List.take_length]at o;exact⟨c,o⟩
 ·rintro fr g ⟨c,o⟩;simp only[vvB,seval,KP];exact aX.ret (qT0) ⟨by rw[o];rfl,c⟩
 ·rintro fr g ⟨f4,c⟩;exact aX.ret (qT1 f4) ⟨rfl,c⟩
def PN [InH]{α:Type}{P:Pos->Prop}{E:El α}{h:Hp}{v f:V}{l:List α}(r:Rws P E 1 h v l)(k:E.Stable)(p:α->Bool)(hn:l.length<=1000000000)
  (n:∀a x g,a∈l->Nw h g->E P g a [x]->∃c,dn qj f [x] g=D (K (p a)) c/\Nw g c):
  ∃h',mr [v,f] h=D (K (l.any p)) h'/\Nw h h':=by
 obtain⟨d,e1,e⟩:=am0 r k p hn n;rw[VY];simp(disch:=omega)only[vvB,seval,JK,afk,Ez,e1];exact⟨d,by simp only[bU,bT,vvB,seval,bW];rw[vC],e⟩
section
variable{h h' d g:Hp}{pq p q a b:Pos}{vs vk f:V}{P:Pos->Prop}{m:Ml}{t:Tm}{i j:Nat}{box u:Int}
def box1(ty:TypeId){x:V}(c:x.cells= [x]/\iq x=true)(h:Hp):eU ty x h=D (X h.next 0) (h.new (O (N ty true) [x])):=by
 unfold eU;rw[c.1,c.2]
def asY{x:Int×Int}{wr:Wr}{cs:List V}(k:Kn g p (O wr cs))(d:cs[1]?=some (iV u)):Fj [.agg (V.ofList (dK x)),X p 0] g=D (K (decide (u>=x.1)&&decide (u<=x.2))) (g.new (O (N 98 true) (dK x))):=by
 have e:Kn (g.new (O (N 98 true) (dK x))) g.next (O (N 98 true) (dK x)):=Kn.new _ _;have e1:=(k.nw (Nw.new g (O (N 98 true) (dK x)))).ld d;have e2:=e.ld (q:=0) (x:=iV x.1) rfl;have c:=e.ld (q:=1) (x:=iV x.2) rfl;rw[alH];by_cases hh:u>=x.1
 ·simp only[vvB,seval,QZ,aaL,Jw,o8,V.dB,e1,e2,c,decide_eq_true hh,F!];simp only[bU,bT,vvB,seval,bW]
 ·simp only[vvB,seval,QZ,aaL,Jw,o8,V.dB,e1,e2,c,decide_eq_false hh,E!];simp only[bU,bT,vvB,seval,bW]
abbrev inR(set:List (Int×Int))(u:Int):Bool:=set.any λx=>decide (u>=x.1)&&decide (u<=x.2)
def awp{x:Int×Int}{set:List (Int×Int)}{G I:Wr}(C:Kn g a (O G [iV box]))(E:Kn g b (O I [vs]))(r:Rws P (flat dK) 2 g vs set)(hl:set.length<=1000):
  ∃c,J7 [.agg (V.ofList (dK x)),X a 0,X b 0] g=D (K (decide (x.1=box)&&inR set x.2)) c/\Nw g c:=by
 obtain⟨z,l,k,o⟩:=mkW g (O (N 106 true) (dK x));have e0:=o.ld (q:=0) (x:=iV x.1) rfl;have e1:=(C.nw k).ld (q:=0) (x:=iV box) rfl;have e2:=(E.nw k).ld (q:=0) (x:=vs) rfl;have n:∀c,dZ (.func 407) [] [X g.next 0] c=D (.func (.func 407) .nil (.cons (X g.next 0) .nil)) c:=λ_=>rfl;obtain⟨B,w,s⟩:=Kt (r.nw (aN _) k) (aN _) (λy=>decide (x.2>=y.1)&&decide (x.2<=y.2)) (by omega) (f:=.func (.func 407) .nil (.cons (X g.next 0) .nil)) (λy cs c _ v e _=>by
  obtain rfl:cs=dK y:=e;exact⟨_,asY (o.nw v) rfl,Nw.new _ _⟩)
 rw[aoJ];by_cases hh:x.1=box
 ·refine⟨B,?_,k.trans s⟩;simp only[vvB,seval,U7,Ns,Nr,o8,V.dB,<-l,e0,e1,e2,n,w,decide_eq_true hh,F!];simp only[bU,bT,vvB,seval,bW]
 ·refine⟨z,?_,k⟩;simp only[vvB,seval,U7,Ns,Nr,o8,V.dB,<-l,e0,e1,e2,n,decide_eq_false hh,E!];simp only[bU,bT,vvB,seval,bW]
def ayq{set:List (Int×Int)}{wr:Wr}{cs:List V}(kp:Kn h pq (O wr cs))(J:cs[5]?=some vk)(rm:Rws P (flat dK) 2 h vk m.mem)(S:m.mem.length<=1000)(r:Rws P (flat dK) 2 h vs set)(hl:set.length<=1000):
  ∃h',Oo [X pq 0,Y U box,vs] h=D (K (m.mem.any λx=>decide (x.1=box)&&inR set x.2)) h'/\Nw h h':=by
 obtain⟨d,l,o,-⟩:=mkW h (O (N 3 true) [iV box]);obtain⟨w,n,k,-⟩:=mkW d (O (N 96 true) [vs]);have M:Kn w h.next (O (N 3 true) [iV box]):=by
  have L:Kn d h.next (O (N 3 true) [iV box]):=by rw[l];exact Kn.new _ _
  exact L.nw k
 have Q:Kn w d.next (O (N 96 true) [vs]):=by rw[n];exact Kn.new _ _
 have b1:∀h,eU 3 (Y U box) h=D (X h.next 0) (h.new (O (N 3 true) [iV box])):=λh=>box1 3 ⟨rfl,rfl⟩ h;have b2:∀h,eU 96 vs h=D (X h.next 0) (h.new (O (N 96 true) [vs])):=λh=>box1 96 r.cell h;have B:=(kp.nw (o.trans k)).ld J;have z:∀v,dZ (.func 406) [] [X h.next 0,X d.next 0] v=D (.func (.func 406) .nil (.cons (X h.next 0) (.cons (X d.next 0) .nil))) v:=λ_=>rfl;obtain⟨I,E,C⟩:=ZG (rm.nw (aN _) (o.trans k)) (aN _) (λx=>decide (x.1=box)&&inR set x.2) (by omega) (f:=.func (.func 406) .nil (.cons (X h.next 0) (.cons (X d.next 0) .nil))) (λy cs v _ s e _=>by
  obtain rfl:cs=dK y:=e;obtain⟨G,e2,c⟩:=awp (x:=y) (M.nw s) (Q.nw s) ((r.nw (aN _) (o.trans k)).nw (aN _) s) hl;exact⟨G,e2,c⟩)
 refine⟨I,?_,(o.trans k).trans C⟩;rw[aqI];simp only[vvB,seval,aj0,acT,acS,b1,<-l,b2,<-n,B,z,E,i!,h!];simp only[bU,bT,vvB,seval,bW]
def ae4(x:List Nat×List Nat):List V:= [H x.1,H x.2]
def ays{wr:Wr}{vs vk:V}(k:Kn g p (O wr (tmC t vs vk)))(hi:i<20)(hj:j<20)(ht:t.text=Ik.upS j)(hn:t.name=ji):
  ∃z,ER [.agg (V.ofList (ae4 (ji,Ik.DI i))),X p 0] g=D (K (q! i j)) z/\Nw g z:=by
 obtain⟨o,w,l,B⟩:=mkW g (O (N 263 true) (ae4 (ji,Ik.DI i)));obtain⟨r,e2,c⟩:=TB (s:=ji) o (by decide) (by decide);obtain⟨v,E,e⟩:=TB (s:=ji) r (by decide) (by decide);have c:Nw o r:=c;have e:Nw r v:=e;have I:=B.ld (q:=0) (x:=H ji) rfl;have J:=((k.nw l).nw c).ld (q:=2) (x:=H ji) (by rw[<-hn];rfl);have y:=(k.nw l).ld (q:=2) (x:=H ji) (by rw[<-hn];rfl);have n1:=(B.nw (c.trans e)).ld (q:=1) (x:=H (Ik.DI i)) rfl;have L:=((k.nw l).nw (c.trans e)).ld (q:=3) (x:=H (Ik.upS j)) (by rw[<-ht];rfl);have G:=Ik.aPW hi hj v;have n:∀g,aJ .eql .none (H (foldM ji)) (H (foldM ji)) g=D (K true) g:=λg=>rfl;have C:∀{k:Out},chk (λh=>aG (X p 2) h) (H ji) k 1 [o]=k:=sN rfl y;refine⟨v,?_,(l.trans c).trans e⟩;rw[aqK];simp only[vvB,seval,aj2,ac8,ac7,o8,V.dB,<-w,I,e2,J,C,E,n,n1,L,G];simp only[bU,bT,vvB,seval,bW]
end
section
variable{h h' d g:Hp}{pq p q a b:Pos}{vs vk vt vf f:V}{P:Pos->Prop}{ts:List Tm}{m:Ml}{t:Tm}{i j n:Nat}{box u:Int}{r:Bool}
structure HIn (P:Pos->Prop) (pq:Pos) (vt vk vs vf:V) (m:Ml) (n:Nat) (ts:List Tm) (h:Hp):Prop where
 k:Kn h pq (O (N 373 true) (dL m vk vs++ [vf,H [120]]))
 t:Rws P tmE 6 h vt ts
 rk:Rws P (flat jT) 1 h vk m.keys
 rm:Rws P (flat dK) 2 h vs m.mem
 f:Rws P (flat ae4) 2 h vf [(ji,Ik.DI n)]
 n:n<20
 kl:m.keys.length<=1000/\m.mem.length<=1000
def HIn.nw{vk vs vt vf:V}(k:HIn P pq vt vk vs vf m n ts h)(c:Nw h h'):HIn P pq vt vk vs vf m n ts h':=⟨k.k.nw c,k.t.nw fZ c,k.rk.nw (aN _) c,k.rm.nw (aN _) c,k.f.nw (aN _) c,k.n,k.kl⟩
def Dq(F:Fun)(P:Pos->Prop)(pq:Pos)(vt vk vs vf:V)(m:Ml)(n:Nat)(ts:List Tm)(i:Int)(r:Bool):Prop:=
 ∀h,HIn P pq vt vk vs vf m n ts h->∃h',F [X pq 0,vt,Y U i] h=D (K r) h'/\Nw h h'
def aPV [InH](a b:Pos)(x:V)(g:Hp):dn qj (.func (.func 332) .nil (.cons (X a 0) (.cons (X b 0) .nil))) [x] g=vS [x,X a 0,X b 0] g:=(rfl)
def aPU [InH](a:Pos)(x:V)(g:Hp):dn qj (.func (.func 333) .nil (.cons (X a 0) .nil)) [x] g=ES [x,X a 0] g:=(rfl)
def kcb [InH](a b:Pos)(x:V)(g:Hp):dn ajR (.func (.func 332) .nil (.cons (X a 0) (.cons (X b 0) .nil))) [x] g=vS [x,X a 0,X b 0] g:=(rfl)
def aPT(a:Pos)(x:V)(g:Hp):dn rO (.func (.func 338) .nil (.cons (X a 0) .nil)) [x] g=ER [x,X a 0] g:=(rfl)
def aio [InH]{w y:Wr}(s:Kn g a (O w [X pq 0]))(v:Kn g b (O y [vt]))(o:Dq zA P pq vt vk vs vf m n ts u r)(k:HIn P pq vt vk vs vf m n ts g):∃l,vS [Y U u,X a 0,X b 0] g=D (K r) l/\Nw g l:=by
 obtain⟨l,e,c⟩:=o g k;have e1:=s.ld (q:=0) (x:=X pq 0) rfl;have e2:=v.ld (q:=0) (x:=vt) rfl;refine⟨l,?_,c⟩;rw[aqM];simp only[vvB,seval,aj6,afk,adb,e1,e2,e];simp only[bU,bT,vvB,seval,bW]
def ayt [InH]{z B C:Wr}{c:Pos}(y:Kn g c (O C [.func (.func 332) .nil (.cons (X a 0) (.cons (X b 0) .nil))]))(v:Kn g a (O z [X pq 0]))(w:Kn g b (O B [vt]))(o:Dq zA P pq vt vk vs vf m n ts u r)(k:HIn P pq vt vk vs vf m n ts g):∃l,ES [Y U u,X c 0] g=D (K (!r)) l/\Nw g l:=by
 obtain⟨l,e,s⟩:=aio v w o k;have e1:=y.ld (q:=0) (x:=.func (.func 332) .nil (.cons (X a 0) (.cons (X b 0) .nil))) rfl;refine⟨l,?_,s⟩;rw[aqL];simp only[vvB,seval,aj3,YU,ac9,e1,kcb,e];simp only[bU,bT,vvB,seval,bW]
inductive Says [InH] (P:Pos->Prop) (pq:Pos) (vt vk vs vf:V) (m:Ml) (n:Nat) (ts:List Tm) (t:Tm):Bool->Prop
 |all (hk:t.kind=1) (p:Int->Bool) (Z6:∀c∈t.kids,Dq zA P pq vt vk vs vf m n ts c (p c)):Says P pq vt vk vs vf m n ts t (!t.kids.any λc=>!p c)
 |no (hk:t.kind=3) (p:Int->Bool) (Z6:∀c∈t.kids,Dq zA P pq vt vk vs vf m n ts c (p c)):Says P pq vt vk vs vf m n ts t (!t.kids.any p)
 |key (hk:t.kind=6):Says P pq vt vk vs vf m n ts t (m.keys.any λa=>decide (t.text=a))
 |head (hk:t.kind=12) {j:Nat} (hj:j<20) (ht:t.text=Ik.upS j) (hn:t.name=ji):Says P pq vt vk vs vf m n ts t (q! n j)
 |uid (hk:t.kind=14):Says P pq vt vk vs vf m n ts t (m.mem.any λx=>decide (x.1=t.n)&&inR t.set x.2)
def lT [InH](ht:ts[i]?=some t)(ac:t.kids.length<=40/\t.set.length<=40)(S:Says P pq vt vk vs vf m n ts t r):Dq Tf P pq vt vk vs vf m n ts i r:=by
 intro h l;obtain⟨d,s,c1,k0⟩:=mkW h (O (N 301 true) [X pq 0]);obtain⟨h2,v,c2,kb⟩:=mkW d (O (N 195 true) [vt]);have ka:=k0.nw c2;have b1:∀h,eU 301 (X pq 0) h=D (X h.next 0) (h.new (O (N 301 true) [X pq 0])):=λh=>box1 301 ⟨rfl,rfl⟩ h;have b2:∀h,eU 195 vt h=D (X h.next 0) (h.new (O (N 195 true) [vt])):=λh=>box1 195 l.t.cell h;have aa:=c1.trans c2;have Z:=kb.ld (q:=0) (x:=vt) rfl;obtain⟨i',q',tc,ix,ex,-,-,-,-,ld⟩:=(l.t.nw fZ aa).elt ht;obtain⟨ws,wk,rfl,rs,rk⟩:=ex;have z:=ld h2 rfl;have oN:∀g,eY 371 [Y U 0,Y U 0,H [],H [],.aQ,.aQ] g=D (X g.next 0) (g.new (O (N 371 true) zTm)):=λg=>rfl;obtain⟨J,ab,c3,k3⟩:=mkW h2 (O (N 371 true) (tmC t ws wk));have S3:=mkT 6 zTm ab;have W:∀g,dZ (.func 332) [] [X h.next 0,X d.next 0] g=D (.func (.func 332) .nil (.cons (X h.next 0) (.cons (X d.next 0) .nil))) g:=λ_=>rfl;have oM:∀g,eY 103 [.fJ] g=D (X g.next 0) (g.new (O (N 103 true) [.fJ])):=λg=>rfl;obtain⟨hx,w,cx,kx⟩:=mkW J (O (N 103 true) [.fJ]);obtain⟨M,L⟩:∃M,M=hx.put J.next (some (O (N 103 true) [.func (.func 332) .nil (.cons (X h.next 0) (.cons (X d.next 0) .nil))])):=⟨_,rfl⟩
 have S4:aV 1 (X J.next 0) (.func (.func 332) .nil (.cons (X h.next 0) (.cons (X d.next 0) .nil))) hx=D V.undef M:=by rw[L];exact kx.st (q:=0) ⟨rfl,rfl⟩ (by simp)
 have c4:Nw J M:=by rw[L];exact cx.put (d! _) _
 have kf:Kn M J.next (O (N 103 true) [.func (.func 332) .nil (.cons (X h.next 0) (.cons (X d.next 0) .nil))]):=by rw[L];exact kx.put _
 have Q:=k3.nw c4;have o:=c3.trans c4;have ka:=ka.nw o;have kb:=kb.nw o;have cc:=aa.trans o;have l:=l.nw cc;have rs:=rs.nw (aN _) o;have rk:=rk.nw (aN _) o;have A3:=ka.ld (q:=0) (x:=X pq 0) rfl;have B:=Q.ld (q:=0) (x:=iV t.kind) rfl;have T1:=Q.ld (q:=1) (x:=iV t.n) rfl;have T3:=Q.ld (q:=3) (x:=H t.text) rfl;have T4:=Q.ld (q:=4) (x:=ws) rfl;have T5:=Q.ld (q:=5) (x:=wk) rfl;have F8:=kf.ld (q:=0) (x:=.func (.func 332) .nil (.cons (X h.next 0) (.cons (X d.next 0) .nil))) rfl;have M4:=l.k.ld (q:=4) (x:=vk) rfl;have M8:=l.k.ld (q:=8) (x:=vf) rfl;rw[ate]
 suffices T:∃h',bU o! [.tmp 6] (yD (T.set (some (Y U (i:Int))) (g! 2) (T.set (some vt) (g! 1) (T.set (some (X pq 0)) (g! 0) T.nil))) h)=D (K r) h'/\Nw M h' by
  obtain⟨h',e,c⟩:=T;exact⟨h',e,cc.trans c⟩
 cases S with
 |all hk p Z6=>
  rw[hk]at B;have F3:∀g,dZ (.func 333) [] [X J.next 0] g=D (.func (.func 333) .nil (.cons (X J.next 0) .nil)) g:=λ_=>rfl;obtain⟨I,E,G⟩:=PN rk (aN _) (λc=>!p c) (by omega) (f:=.func (.func 333) .nil (.cons (X J.next 0) .nil)) (λc x g hc C e=>by
   cases e;obtain⟨g',e,c'⟩:=ayt (kf.nw C) (ka.nw C) (kb.nw C) (Z6 c hc) (l.nw C);exact⟨g',by rw[aPU];exact e,c'⟩)
  refine⟨I,?_,G⟩;simp(disch:=omega)only[vvB,seval,yD,wL,wK,wJ,wI,wH,afS,b1,<-s,b2,<-v,Z,ix,z,oN,S3,W,oM,<-w,S4,B,T5,F3,E,l!,decide_true,decide_false];simp only[bU,bT,vvB,seval,bW]
 |no hk p Z6=>
  rw[hk]at B;obtain⟨I,E,G⟩:=PN rk (aN _) p (by omega) (f:=.func (.func 332) .nil (.cons (X h.next 0) (.cons (X d.next 0) .nil))) (λc x g hc C e=>by
   cases e;obtain⟨g',e,c'⟩:=aio (ka.nw C) (kb.nw C) (Z6 c hc) (l.nw C);exact⟨g',by rw[aPV];exact e,c'⟩)
  refine⟨I,?_,G⟩;simp(disch:=omega)only[vvB,seval,yD,wL,wK,wJ,wI,wH,BU,BR,afR,b1,<-s,b2,<-v,Z,ix,z,oN,S3,W,oM,<-w,S4,B,T5,F8,E,l!,decide_true,decide_false];simp only[bU,bT,vvB,seval,bW]
 |key hk=>
  rw[hk]at B;obtain⟨I,E,G⟩:=ah2 l.rk t.text (by have:=l.kl;omega);refine⟨I,?_,G⟩;simp(disch:=omega)only[vvB,seval,yD,wL,wK,wJ,wI,wH,BU,BR,E8,EZ,EY,adk,b1,<-s,b2,<-v,Z,ix,z,oN,S3,W,oM,<-w,S4,B,A3,M4,T3,E,h!,i!,l!,decide_true,decide_false];simp only[bU,bT,vvB,seval,bW]
 |head hk hj ht hn=>
  rw[hk]at B;have F3:∀g,dZ (.func 338) [] [X h2.next 0] g=D (.func (.func 338) .nil (.cons (X h2.next 0) .nil)) g:=λ_=>rfl;obtain⟨I,E,G⟩:=abQ l.f (aN _) (λ_=>q! n _) (by simp) (f:=.func (.func 338) .nil (.cons (X h2.next 0) .nil)) (λy cs g hy C e _=>by
   obtain rfl:y=(ji,Ik.DI n):=by simpa using hy
   obtain rfl:cs=ae4 (ji,Ik.DI n):=e;obtain⟨g',e,c'⟩:=ays (Q.nw C) l.n hj ht hn;exact⟨g',by rw[aPT];exact e,c'⟩)
  simp only[List.any_cons,List.any_nil,Bool.or_false]at E;refine⟨I,?_,G⟩;simp(disch:=omega)only[vvB,seval,yD,wL,wK,wJ,wI,wH,BU,BR,E8,EZ,EY,QI,QH,QG,QF,QE,QD,adi,b1,<-s,b2,<-v,Z,ix,z,oN,S3,W,oM,<-w,S4,B,A3,M8,F3,E,h!,i!,l!,decide_true,decide_false];simp only[bU,bT,vvB,seval,bW]
 |uid hk=>
  rw[hk]at B;obtain⟨I,E,G⟩:=ayq (box:=t.n) l.k (vk:=vs) rfl l.rm l.kl.2 rs (by omega);refine⟨I,?_,G⟩;simp(disch:=omega)only[vvB,seval,yD,wL,wK,wJ,wI,wH,BU,BR,E8,EZ,EY,QI,QH,QG,QF,QE,QD,adh,adg,adf,b1,<-s,b2,<-v,Z,ix,z,oN,S3,W,oM,<-w,S4,B,T1,T4,A3,E,h!,i!,l!,decide_true,decide_false];simp only[bU,bT,vvB,seval,bW]
end
section
variable{h h' b g:Hp}{pq p q a:Pos}{vs vk vt vf f:V}{P:Pos->Prop}{ts:List Tm}{m:Ml}{t:Tm}{i j n:Nat}{box:Int}{r:Bool}
def abP(ts:List Tm)(m:Ml)(n:Nat)(r:Bool):Prop:=∀(P:Pos->Prop) (pq:Pos) (vt vk vs vf:V),Dq abJ P pq vt vk vs vf m n ts ((ts.length:Int) - 1) r
abbrev lI(m:Ml):Bool:=m.keys.any λa=>decide (gZ=a)
def azR:abP [tK gZ,tC [0]] m n (lI m):=λP pq vt vk vs vf=>by
 have h0:Dq (@InH.F (lvH 2)) P pq vt vk vs vf m n [tK gZ,tC [0]] 0 (lI m):=by
  letI:InH:=lvH 1
  exact lT (i:=0) (t:=tK gZ) rfl ⟨by decide,by decide⟩ (.key rfl)
 letI:InH:=lvH 2
 have:=lT (P:=P) (pq:=pq) (vt:=vt) (vk:=vk) (vs:=vs) (vf:=vf) (m:=m) (n:=n) (i:=1) (ts:= [tK gZ,tC [0]]) (t:=tC [0]) rfl ⟨by decide,by decide⟩ (.all rfl (λ_=>lI m) λc d=>by simp at d;subst d;exact h0);rw[show(!(tC [0]).kids.any λc=>!(lI m))=lI m by simp]at this;exact this
def aJx(hj:j<20):abP [tH ji (Ik.upS j),tC [0]] m n (q! n j):=λP pq vt vk vs vf=>by
 have h0:Dq (@InH.F (lvH 2)) P pq vt vk vs vf m n [tH ji (Ik.upS j),tC [0]] 0 (q! n j):=by
  letI:InH:=lvH 1
  exact lT (i:=0) (t:=tH ji (Ik.upS j)) rfl ⟨r! _,r! _⟩ (.head rfl hj rfl rfl)
 letI:InH:=lvH 2
 have:=lT (P:=P) (pq:=pq) (vt:=vt) (vk:=vk) (vs:=vs) (vf:=vf) (m:=m) (n:=n) (i:=1) (ts:= [tH ji (Ik.upS j),tC [0]]) (t:=tC [0]) rfl ⟨by decide,by decide⟩ (.all rfl (λ_=>q! n j) λc d=>by simp at d;subst d;exact h0);rw[show(!(tC [0]).kids.any λc=>!(q! n j))=q! n j by simp]at this;exact this
def aEj:abP [tK gZ,tN 0,tC [1]] m n (!lI m):=λP pq vt vk vs vf=>by
 have h0:Dq (@InH.F (lvH 1)) P pq vt vk vs vf m n [tK gZ,tN 0,tC [1]] 0 (lI m):=by
  letI:InH:=lvH 0
  exact lT (i:=0) (t:=tK gZ) rfl ⟨by decide,by decide⟩ (.key rfl)
 have b:Dq (@InH.F (lvH 2)) P pq vt vk vs vf m n [tK gZ,tN 0,tC [1]] 1 (!lI m):=by
  letI:InH:=lvH 1
  have:=lT (P:=P) (pq:=pq) (vt:=vt) (vk:=vk) (vs:=vs) (vf:=vf) (m:=m) (n:=n) (i:=1) (ts:= [tK gZ,tN 0,tC [1]]) (t:=tN 0) rfl ⟨by decide,by decide⟩ (.no rfl (λ_=>lI m) λc d=>by simp at d;subst d;exact h0);rw[show(!(tN 0).kids.any λc=>lI m)=!lI m by simp]at this;exact this
 letI:InH:=lvH 2
 have:=lT (P:=P) (pq:=pq) (vt:=vt) (vk:=vk) (vs:=vs) (vf:=vf) (m:=m) (n:=n) (i:=2) (ts:= [tK gZ,tN 0,tC [1]]) (t:=tC [1]) rfl ⟨by decide,by decide⟩ (.all rfl (λ_=>!lI m) λc d=>by simp at d;subst d;exact b);rw[show(!(tC [1]).kids.any λc=>!(!lI m))=!lI m by simp]at this;exact this
def aJy{set:List (Int×Int)}(k:set.length<=40):abP [tU box set,tC [],tN 1,tC [0,2]] m n false:=λP pq vt vk vs vf=>by
 have b:Dq (@InH.F (lvH 1)) P pq vt vk vs vf m n [tU box set,tC [],tN 1,tC [0,2]] 1 true:=by
  letI:InH:=lvH 0
  exact lT (i:=1) (t:=tC []) rfl ⟨by decide,by decide⟩ (.all rfl (λ_=>true) λc d=>by simp at d)
 have h0:Dq (@InH.F (lvH 2)) P pq vt vk vs vf m n [tU box set,tC [],tN 1,tC [0,2]] 0 (m.mem.any λx=>decide (x.1=box)&&inR set x.2):=by
  letI:InH:=lvH 1
  exact lT (i:=0) (t:=tU box set) rfl ⟨r! _,k⟩ (.uid rfl)
 have e:Dq (@InH.F (lvH 2)) P pq vt vk vs vf m n [tU box set,tC [],tN 1,tC [0,2]] 2 false:=by
  letI:InH:=lvH 1
  exact lT (i:=2) (t:=tN 1) rfl ⟨by decide,by decide⟩ (.no rfl (λ_=>true) λc d=>by simp at d;subst d;exact b)
 letI:InH:=lvH 2
 have:=lT (P:=P) (pq:=pq) (vt:=vt) (vk:=vk) (vs:=vs) (vf:=vf) (m:=m) (n:=n) (i:=3) (ts:= [tU box set,tC [],tN 1,tC [0,2]]) (t:=tC [0,2]) rfl ⟨by decide,by decide⟩ (.all rfl (λc=>if c=0 then(m.mem.any λx=>decide (x.1=box)&&inR set x.2) else false) λc d=>by
  simp at d;rcases d with rfl|rfl
  ·exact h0
  ·exact e)
 rw[show(!(tC [0,2]).kids.any λc=>!(if c=0 then(m.mem.any λx=>decide (x.1=box)&&inR set x.2) else false))=false by simp]at this;exact this
def ayr(ht:m.text=Ik.nN n)(hn:n<20)(hk:vk.cells= [vk]/\iq vk=true)(L:vs.cells= [vs]/\iq vs=true):
  ∃h' p f,Oq [.agg (V.ofList (dL m vk vs))] h=D (X p 0) h'/\Nw h h'/\Kn h' p (O (N 373 true) (dL m vk vs++ [.slice f 0 1 (.un 2),H [120]]))/\Rws (λj=>j=f) (flat ae4) 2 h' (.slice f 0 1 (.un 2)) [(ji,Ik.DI n)]:=by
 obtain⟨b,s,I,u⟩:=mkW h (O (N 40 true) (dL m vk vs));obtain⟨k,d,o,-⟩:=mkW b (Ik.al3 n);have J:Kn k b.next (O (N 263 false) (([(ji,Ik.DI n)]:List (List Nat×List Nat)).map ae4).flatten):=by rw[d];exact Kn.new _ _
 have y:Rws (λj=>j=b.next) (flat ae4) 2 k (.slice b.next 0 1 (.un 2)) [(ji,Ik.DI n)]:=Kn.rws (c:=ae4) (l:= [(ji,Ik.DI n)]) (cp:=.un 2) (sz:=2) J (λ_=>rfl) (λ_ _ _ _ e=>by cases e;exact rfl);have v:=Ik.aNz hn b;rw[<-d]at v;have z:=u.ld (q:=2) (x:=H (Ik.nN n)) (by rw[<-ht];rfl);have B:=((u.nw o).bump 1).ld (q:=2) (x:=H (Ik.nN n)) (by rw[<-ht];rfl);have C:=((u.nw o).bump 1).ldN (n:=8) rfl;have w:∀g,aZ 1 (H (Ik.nN n)) g=D (Y U 18) g:=λg=>by
  show R.ok (Y U ((Ik.nN n).length:Int)) g=_;rw[show(Ik.nN n).length=18 by simp[Ik.nN,Ik.vI]];rfl
 have Sl:∀g,Bj (H (Ik.nN n)) (some (Y U 17)) none g=D (H [120]) g:=λg=>rfl;have G:∀g,bK [Y U 0,Y U 0,H [],Y U 0,.aQ,.aQ,Y U 0,Y U 0,.aQ,H []] [(0,8,.agg (V.ofList (dL m vk vs))),(8,1,.slice b.next 0 1 (.un 2)),(9,1,H [120])] g=D (.agg (V.ofList (dL m vk vs++ [.slice b.next 0 1 (.un 2),H [120]]))) g:=λg=>rfl;have E:akX 373 (.agg (V.ofList (dL m vk vs++ [.slice b.next 0 1 (.un 2),H [120]])))=some (O (N 373 true) (dL m vk vs++ [.slice b.next 0 1 (.un 2),H [120]]),λp=>X p 0):=rfl;refine⟨k.new (O (N 373 true) (dL m vk vs++ [.slice b.next 0 1 (.un 2),H [120]])),k.next,b.next,?_,(I.trans o).trans (Nw.new _ _),Kn.new _ _,y.nw (aN _) (Nw.new _ _)⟩;rw[aqJ];simp only[vvB,seval,aj1,ac6,ac5,ac4,o8,V.dB,<-s,z,w,v,C,B,Sl,G,E,Ik.aub,h!];simp only[bU,bT,vvB,seval,bW]
end
section
variable{h h' c g:Hp}{p q a:Pos}{v vs vk vt w f:V}{P d Pk b:Pos->Prop}{ts:List Tm}{m:Ml}{t:Tm}{j n k:Nat}{box:Int}{r:Bool}
structure Fine (ts:List Tm):Prop where
 r:Right ts
 n:1<=ts.length/\ts.length<=40
 k:∀t∈ts,t.kids.length<=40
def aHD(s:Rws d tmE 6 h vt ts)(e:Fine ts)(Z:abP ts m n r)(rk:Rws Pk (flat jT) 1 h vk m.keys)(rm:Rws b (flat dK) 2 h vs m.mem)(ht:m.text=Ik.nN n)(hn:n<20)(o:m.keys.length<=1000/\m.mem.length<=1000):
  ∃h',abI [vt,.agg (V.ofList (dL m vk vs))] h=D (K r) h'/\Nw h h':=by
 obtain⟨c,i,u,k1⟩:=mkW h (O (N 40 true) (dL m vk vs));obtain⟨Q,e2,x⟩:=aDc (s.nw fZ u) e.r e.n e.k;have C:=(k1.nw x).ldN (n:=8) rfl;obtain⟨z,p,f,L,G,k3,B⟩:=ayr (h:=Q) ht hn rk.cell rm.cell;have y:=(u.trans x).trans G;have T:∀{α:Type} {E:El α} {w:Nat} {v:V} {l:List α} {P:Pos->Prop},E.Stable->Rws P E w h v l->Rws (λ_=>True) E w z v l:=λW r=>r.ch W y λ_ _ _=>⟨trivial,λq=>q⟩
 obtain⟨S,M,I⟩:=Z (λ_=>True) p vt vk vs (.slice f 0 1 (.un 2)) z ⟨k3,T fZ s,T (aN _) rk,T (aN _) rm,B.ch (aN _) (Nw.refl _) λ_ _ _=>⟨trivial,λq=>q⟩,hn,o⟩;have ln:=s.len;have J:decide ((ts.length:Int)=0)=false:=decide_eq_false (by have:=e.n;omega);have sb:∀g,aJ .sub .none (Y U (ts.length:Int)) (Y U 1) g=D (Y U ((ts.length:Int) - 1)) g:=λg=>LJ (by have:=e.n;omega) (by have:=e.n;omega);refine⟨S,?_,y.trans I⟩;rw[ayV];simp(disch:=omega)only[vvB,seval,aw2,anF,anE,o8,V.dB,<-i,e2,ln,J,C,L,sb,M];simp only[bU,bT,vvB,seval,bW]
def azQ:Fine [tK gZ,tC [0]]:=⟨rfl,by decide,by simp⟩
def aJv:Fine [tH ji (Ik.upS j),tC [0]]:=⟨rfl,⟨n! _ _,n! 2 38⟩,by simp⟩
def aEi:Fine [tK gZ,tN 0,tC [1]]:=⟨rfl,by decide,by simp⟩
def aJw{set:List (Int×Int)}:Fine [tU box set,tC [],tN 1,tC [0,2]]:=⟨rfl,⟨n! _ _,n! 4 36⟩,by simp⟩
end
end Go.Proofs.Im
namespace Go.Vm
section
variable{h h' g:Hp}
def aHc{bt:Nat}{el:TypeId}{p:Pos}{wr:Wr}{x y:V}(e:h.get p=some (O wr [x]))(i:p.nat<h.next.nat)(hb:2*bt<=140737488355328):
  bZ el 1 bt (.slice p 0 1 (.kn 1)) (.slice h.next 0 1 (.kn 1)) (h.new (O (N el true) [y]))=D (.slice h.next.succ 0 2 (.un 1)) ((h.new (O (N el true) [y])).new (O (N el false) [x,y])):=by
 have b:(h.new (O (N el true) [y])).get p=some (O wr [x]):=by rw[new_ne h (by omega)];exact e
 unfold bZ;have a:∀f:Nat->List V->R V,qK 1 (.slice h.next 0 1 (.kn 1)) (h.new (O (N el true) [y])) f=f 1 [y]:=λf=>by
  show dR _ _ _=_;rw[dM (wr:=N el true) (all:= [y]) (by rw[dU];rfl)];rfl
 rw[a];simp only[];rw[dM (wr:=wr) (all:= [x]) (by rw[b];rfl)];simp only[dF];have c:gJ (1*1) (fG 0 [x])=some [x]:=rfl;have d:p! (1+(0+1)) 1=false:=rfl;simp only[c,d];rw[qC (by omega)];rfl
def EX(b:Nat)(g:Hp)(w:V)(l:List (List Nat)):Prop:=
 (∃p s,w=.slice p 0 1 (.kn 1)/\l= [s]/\Kn g p (O (N 9 true) [H s]))\/dD b (λ_=>False) (flat jT) 9 1 g w l
def EX.nw{b:Nat}{w:V}{l:List (List Nat)}(o:EX b g w l)(c:Nw g h):EX b h w l:=by
 rcases o with⟨p,s,e,e2,k⟩|o
 ·exact .inl ⟨p,s,e,e2,k.nw c⟩
 ·exact .inr (o.nw (aN _) c)
def EX.rws{b:Nat}{w:V}{l:List (List Nat)}(o:EX b g w l):Rws (λ_=>True) (flat jT) 1 g w l:=by
 rcases o with⟨p,s,rfl,rfl,k⟩|o
 ·exact(Kn.rws (c:=jT) (l:= [s]) (cp:=.kn 1) (sz:=1) k (λ_=>rfl) (λ_ _ _ _ e=>by cases e;exact d! _)).ch (aN _) (Nw.refl g) λ_ _ _=>⟨trivial,λq=>q⟩
 ·exact o.aBZ
def EX.lt{b:Nat}{w:V}{l:List (List Nat)}(o:EX b g w l):∀j,bV w=some j->j.nat<g.next.nat:=λj e=>by
 rcases o with⟨p,a,rfl,rfl,k⟩|o
 ·cases e;exact k.2
 ·exact(o.fF e).2
def EX.app{b:Nat}{w:V}{l:List (List Nat)}{s:List Nat}(o:EX b g w l)(hb:b<=g.next.nat)(hl:l.length<=1000):
  ∃w' a,bZ 9 1 16 w (.slice g.next 0 1 (.kn 1)) (g.new (O (N 9 true) [H s]))=D w' a/\EX b a w' (l++ [s])/\Ch (λj=>b<=j.nat/\bV w=some j) g a:=by
 rcases o with⟨p,f,rfl,rfl,k⟩|o
 ·refine⟨_,_,aHc k.1 k.2 (by omega),.inr ?_,((Nw.new _ _).trans (Nw.new _ _)).ch⟩;refine⟨[jT f,jT s],.cons rfl (.cons rfl .nil),λd hd=>by simp at hd;rcases hd with rfl|rfl<;>rfl,rfl,.inr ⟨g.next.succ,rfl,by rw[Pos.fA];omega,?_,false,?_⟩⟩
  ·rw[bG,bG,Pos.fA];omega
  ·exact dU _ _
 ·obtain⟨v',h',e,o',c,n,i⟩:=o.apP (bt:=16) (x:=s) hb rfl (by omega);exact⟨v',h',e,.inr o',c.mono λj _ q=>⟨(o.fF q).1,q⟩⟩
end
end Go.Vm
namespace Go.Proofs.Im
section
variable{bb:Nat}{h h' h0:Hp}{P F I J Z m:Pos->Prop}{ps pl ib p ir pc im:Pos}{cb:Cap}{fb uid:Bool}{v vm vl vv vw:V}{st:Sn}{L:List V}{s:List Nat}{w:Wds}
def Rq.aQi(q:Rq bb h0 Z h pc im ps ir uid w s st L vw P F J pl ib cb fb vm vl vv I){l:List (List Nat)}(r:Rws m (flat jT) 1 h v l)(hl:l.length<=1000)(ht:fV l<=100000000)(hb:∀t∈l,∀c∈t,c<256)(hj:l.length<=1\/dN [32] l≠ [])(u:s.length+(dN [32] l).length+2<=1000000000):
  ∃r h' i,wu [X ir 0,v] h=D r h'/\Rq bb h0 Z h' pc im ps ir uid w (s++(dN [32] l++ [13,10])) st i vw P F J pl ib cb fb vm vl vv I/\Stp (OfB ir 5 L) h (OfB ir 5 i) h':=by
 obtain⟨n,a,B,sl,b,-⟩:=r;have z:n.flatten=l.map H:=by
  rw[a.flat];clear a sl b B hl ht hb hj u;induction l with
  |nil=>rfl
  |cons x l C=>rw[v!,v!,List.flatten_cons,C];rfl
 rw[z]at sl;obtain⟨r,h',i,e,y,d,k,E⟩:=aDS q.bd sl b (d! _) (by omega) ht hb hj u;refine⟨r,h',i,e,⟨y,q.hbb,λj o=>(d.sub j o).elim (q.ob j) λl=>.inr (G! q.chz.next l),by rw[k 1 (by omega) (by omega)];exact q.l1,by rw[k 3 (by omega) (by omega)];exact q.l3,by rw[k 4 (by omega) (by omega)];exact q.l4,by rw[k 0 (by omega) (by omega)];exact q.l0,?_,q.wd.ch d.ch λj f o=>q.dis j o f,?_,q.old,q.foot,?_⟩,d⟩
 ·exact q.ws.ch d.ch λj _ p=>⟨p,λo=>by have:=(q.old j p).1;have:=(o.from q.bd _).1;omega⟩
 ·intro j o f;rcases d.sub j o with o|o
  ·exact q.dis j o f
  ·have:=q.wd.lt j f;omega
 ·exact q.chz.trans d.ch λj hj o=>(q.ob j o).resolve_right (by omega)
end
end Go.Proofs.Im
