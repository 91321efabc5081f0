/- Lemmas. No conditions. -/
import Derived.Test.YtpgppmioigacoaaGreatDoorFAX
import Derived.Test.YtpgppmioigacoaaGreatDoorFAV
import Derived.Test.YtpgppmioigacoaaGreatDoorFAW
import Derived.Test.YtpgppmioigacoaaGreatDoorFAP
set_option linter.all false
set_option maxRecDepth 100000
open List renaming mem_append→a!,range→b!,mem_map→c!,getElem?_map→d!,getElem?_eq_getElem→g!,getElem?_range→h!,mem_range→i!,mem_of_getElem?→j!,mem_of_find?_eq_some→k!,map_congr_left→n!,length_append→o!,all_eq_true→p!,map_append→q!,length_map→r!,getElem?_set_self→t!,getElem?_eq_none→x!,getElem?_set_ne→z!,ext_getElem?→B!,append_assoc→C!,take_length→D!,length_take→E!,length_cons→F!,range_succ→H!,append_nil→I!,map_cons→J!,map_map→L!
open Go.Vm.Pos renaming of→e!
open Nat renaming le_refl→l!,le_trans→v!,add_zero→w!,reduceAdd→K!
open Go.Vm.Out renaming ret→u!,nor→M!
open Int renaming reduceEq→y!,toNat_of_nonneg→A!,le_refl→N!
open Go.Vm.V renaming int→Y,ptr→X,bool→K,str→H
open Go.IntKind renaming i64→U
open Go.Vm.Ob renaming cells→O
open Go.Vm.Wr renaming rw→N
open Go.Vm.R renaming ok→D
noncomputable section
open Go Go.Vm Go.Ln Go.Proofs Go.Im Go.Proofs.Im
namespace Go.Im
def uT(x:Mg)(y:Int×Ml):List (List Nat):= [[70,69,84,67,72,32,40,85,73,68],dZ x.uid.toNat,[70,76,65,71,83],fO y.2.keys,[77,79,68,83,69,81,32,40]++dZ y.2.mod.toNat++ [41,41]]
def agT(now:List (Int×Ml))(i:Nat)(x:Mg):List Nat:=match pX now x with
 |some y=>if y.2.mod>x.told then FQ (i+1) (uT x y) else []
 |none=> []
def agM(now:List (Int×Ml))(x:Mg):Mg:=match pX now x with
 |some y=>if y.2.mod>x.told then{x with told:=y.2.mod} else x
 |none=>x
def nN(now:List (Int×Ml)):Nat->List Mg->List Nat
 |_,[]=> []
 |i,x::l=>agT now i x++nN now (i+1) l
def amJ(now:List (Int×Ml))(x:Mg):∀(l:List Mg) (i:Nat),nN now i (l++ [x])=nN now i l++agT now (i+l.length) x
 | [],i=>by simp[nN]
 |y::l,i=>by
  show agT now i y++nN now (i+1) (l++ [x])=_;rw[amJ now x l (i+1),<-C!];rw[show i+1+l.length=i+(y::l).length by simp;omega];rfl
structure TellOk (now:List (Int×Ml)) (m:List Mg):Prop where
 found:∀x∈m,(pX now x).isSome=true
 uid:∀x∈m,0<=x.uid/\x.uid<100
 mod:∀y∈now,0<=y.2.mod/\y.2.mod<100
 keys:∀y∈now,y.2.keys.length<=20/\∀s∈y.2.keys,s.length<=100/\(∀c∈s,c<256)/\s≠ []
def afM{sep:List Nat}(e:∀c∈sep,c<256):∀{l:List (List Nat)},(∀t∈l,∀c∈t,c<256)->∀c∈dH sep l,c<256
 | [],_,c,h=>by simp[dH]at h
 | [a],hl,c,h=>hl a (by simp) c (by simpa[dH]using h)
 |a::b::l,hl,c,h=>by
  have h:c∈a++sep++dH sep (b::l):=h;rcases a!.1 h with h|h
  ·rcases a!.1 h with h|h
   ·exact hl a (by simp) c h
   ·exact e c h
  ·exact afM e (l:=b::l) (λt j=>hl t (by simp[j])) c h
def anA{l:List (List Nat)}(h:l.length<=20)(hl:∀s∈l,s.length<=100/\(∀c∈s,c<256)/\s≠ []):(fO l).length<=10200/\∀c∈fO l,c<256:=by
 have o:fP (l.map lD)<=l.length*109:=Go.Proofs.Im.aCR λs b=>(hl s b).1;have q:(dH [32] (l.map lD)).length<=10100:=Go.Proofs.Im.aJ7 (by omega) (by simp;omega);refine⟨by unfold fO;simp;omega,λc a=>?_⟩;unfold fO at a;rcases a!.1 a with a|a
 ·rcases a!.1 a with a|a
  ·exact(by decide:∀c∈([40]:List Nat),c<256) c a
  ·exact afM (by decide) (λt e=>by obtain⟨x,j,rfl⟩:=c!.1 e;exact asf (hl x j).2.1) c a
 ·exact(by decide:∀c∈([41]:List Nat),c<256) c a
def aqv{x:Mg}{y:Int×Ml}(G:0<=x.uid/\x.uid<100)(E:0<=y.2.mod/\y.2.mod<100)(j:y.2.keys.length<=20/\∀s∈y.2.keys,s.length<=100/\(∀c∈s,c<256)/\s≠ []):
  fP (uT x y)<=10300/\(∀t∈uT x y,∀c∈t,c<256)/\∀k<99,(FQ (k+1) (uT x y)).length<=12000/\∀c∈FQ (k+1) (uT x y),c<256:=by
 have o:=kQ (n:=x.uid.toNat) (by omega);have q:=kQ (n:=y.2.mod.toNat) (by omega);have z:=anA j.1 j.2;have e:fP (uT x y)<=10300:=by simp[fP,uT];omega
 have b:∀t∈uT x y,∀c∈t,c<256:=by
  intro t l;simp only[uT,List.mem_cons,List.not_mem_nil,or_false]at l;rcases l with rfl|rfl|rfl|rfl|rfl
  ·decide
  ·exact o.2.1
  ·decide
  ·exact z.2
  ·intro c a;rcases a!.1 a with a|a
   ·rcases a!.1 a with a|a
    ·exact(by decide:∀c∈([77,79,68,83,69,81,32,40]:List Nat),c<256) c a
    ·exact q.2.1 c a
   ·exact(by decide:∀c∈([41,41]:List Nat),c<256) c a
 refine⟨e,b,λk C=>?_⟩;have r:=kQ (n:=k+1) (by omega)
 have hj:(dH [32] (uT x y)).length<=10310:=by simp[dH,uT];omega
 refine⟨by unfold FQ;simp;omega,λc a=>?_⟩;unfold FQ at a;rcases a!.1 a with a|a
 ·rcases a!.1 a with a|a
  ·rcases a!.1 a with a|a
   ·rcases a!.1 a with a|a
    ·exact(by decide:∀c∈([42,32]:List Nat),c<256) c a
    ·exact r.2.1 c a
   ·exact(by decide:∀c∈([32]:List Nat),c<256) c a
  ·exact afM (by decide) b c a
 ·exact(by decide:∀c∈([13,10]:List Nat),c<256) c a
def arP{now:List (Int×Ml)}:∀{m:List Mg} {i:Nat},(∀x∈m,0<=x.uid/\x.uid<100)->(∀y∈now,0<=y.2.mod/\y.2.mod<100)->(∀y∈now,y.2.keys.length<=20/\∀s∈y.2.keys,s.length<=100/\(∀c∈s,c<256)/\s≠ [])->i+m.length<99->∀c∈nN now i m,c<256
 | [],_,_,_,_,_,c,h=>by simp[nN]at h
 |x::m,i,j,e,b,hi,c,h=>by
  simp only[F!]at hi;have h:c∈agT now i x++nN now (i+1) m:=h;rcases a!.1 h with h|h
  ·unfold agT at h;split at h
   ·rename_i y l;have a:y∈now:=k! l;split at h
    ·exact((aqv (j x (by simp)) (e y a) (b y a)).2.2 i (by omega)).2 c h
    ·simp at h
   ·simp at h
  ·exact arP (λz o=>j z (by simp[o])) e b (by omega) c h
end Go.Im
namespace Go.Proofs.Im
section
variable{h h' g:Hp}{P:Pos->Prop}{cp i:Pos}{uid only:Bool}{v:V}{d:List V}{w:Wds}{f n:Nat}{now:List (Int×Ml)}
def atx{w:Wr}(kc:Kn h cp (O w [v]))(r:Rws P Ad 9 h v now)(hn:now.length<=1000)(hP:∀j,P j->j.nat<h.next.nat)(x:Mg):
  ∃h' cs f,Bz [.agg (V.ofList (mgC x)),X cp 0] h=D (.tuple (.cons (.agg (V.ofList cs)) (.cons (K f) .nil))) h'/\Nw h h'/\cs.length=9/\f=(pX now x).isSome/\∀y,pX now x=some y->∃vk vs,cs=thC y vk vs/\Rws P (flat dN) 1 h' vk y.2.keys:=by
 obtain⟨G,W,c1,k1⟩:=mkW h (O (N 248 true) (mgC x));obtain⟨h2,Z,c2,k2⟩:=mkW G (O (N 250 true) zTh);have c:=c1.trans c2;have V2:=(kc.nw c).ld (q:=0) (x:=v) rfl;have FF:∀g,eP (.func 178) [] [X h.next 0] g=D (.func (.func 178) .nil (.cons (X h.next 0) .nil)) g:=λg=>rfl;obtain⟨C,e3,Q⟩:=RS (r.nw dQ c) dQ (λy=>decide (y.1=x.uid)&&decide (y.2.id=x.id)) (by omega) (f:=.func (.func 178) .nil (.cons (X h.next 0) .nil)) (λy cs g _ cg e _=>by
  obtain⟨vk,vs,rfl,-,-⟩:=e;rw[Zj,acQ ((k1.nw c2).nw cg)];exact⟨_,rfl,Nw.new _ _⟩)
 have o:kT [v,.func (.func 178) .nil (.cons (X h.next 0) .nil)] h2=D (iV (fE (now.findIdx? λy=>decide (y.1=x.uid)&&decide (y.2.id=x.id)))) C:=e3;have k3:=k2.nw Q;have n1:=c1.next;have E:=FU (f:=λy:Int×Ml=>decide (y.1=x.uid)&&decide (y.2.id=x.id)) (l:=now);have B3:bW zTh [] C=D (.agg (V.ofList zTh)) C:=(rfl)
 rw[Xk];cases M:now.findIdx? (λy=>decide (y.1=x.uid)&&decide (y.2.id=x.id)) with
 |none=>
  rw[M]at o E;simp only[fE]at o;have S:pX now x=none:=E;obtain⟨b,a⟩:∃b,b=C.put G.next (some (O (N 250 true) zTh)):=⟨_,rfl⟩
  have S4:aS 9 (X G.next 0) (.agg (V.ofList zTh)) C=D V.undef b:=by rw[a];exact k3.stN rfl rfl
  have k4:Kn b G.next (O (N 250 true) zTh):=by rw[a];exact k3.put _
  have c4:Nw h b:=by rw[a];exact(c.trans Q).put (by omega) _
  simp(disch:=omega)only[vvB,seval,Bh,wB,wz,wu,Nc,V.cZ,<-W,<-Z,V2,FF,o,B3,S4];exact⟨b,zTh,false,by simp only[bV,bQ,vvB,seval,air,k4.ldN (n:=9) rfl,bT]<;>rfl,c4,rfl,by rw[S];rfl,λy e=>by rw[S]at e;cases e⟩
 |some t=>
  rw[M]at o E;simp only[fE]at o;obtain⟨y,hy⟩:∃y,now[t]?=some y:=by
   obtain⟨ht,-⟩:=List.findIdx?_eq_some_iff_getElem.1 M;exact⟨_,g! ht⟩
  have S:pX now x=some y:=by rw[show pX now x=_ from E];exact hy
  obtain⟨i,q,cs,ix,ex,ab,-,-,-,ln⟩:=(r.nw dQ (c.trans Q)).elt hy;obtain⟨vk,vs,rfl,rk,-⟩:=ex;have aa:=ln C rfl;have V3:=((kc.nw c).nw Q).ld (q:=0) (x:=v) rfl;obtain⟨b,a⟩:∃b,b=C.put G.next (some (O (N 250 true) (thC y vk vs))):=⟨_,rfl⟩
  have S4:aS 9 (X G.next 0) (.agg (V.ofList (thC y vk vs))) C=D V.undef b:=by rw[a];exact k3.stN rfl rfl
  have k4:Kn b G.next (O (N 250 true) (thC y vk vs)):=by rw[a];exact k3.put _
  have c4:Nw h b:=by rw[a];exact(c.trans Q).put (by omega) _
  simp(disch:=omega)only[vvB,seval,Bh,wB,wz,wu,MZ,V.cZ,<-W,<-Z,V2,FF,o,V3,ix,aa,S4];exact⟨b,thC y vk vs,true,by simp only[bV,bQ,vvB,seval,air,k4.ldN (n:=9) rfl,bT]<;>rfl,c4,rfl,by rw[S];rfl,λz e=>by rw[S]at e;cases e;exact⟨vk,vs,rfl,rk.ch (aJ _) (show Ch (λj=>j=G.next) C b by rw[a];exact Ch.put _ _ rfl) λj _ q=>⟨q,λe=>by have:=hP j q;rw[e]at this;omega⟩⟩⟩
end
section
variable{h h' g:Hp}{F I J:Pos->Prop}{ps pl ib p pv pc i:Pos}{A B:Acc}{cb:Cap}{fb uid only u:Bool}{v vm vl vw:V}{box had:Int}{L:List V}{s:List Nat}{k f n:Nat}{now:List (Int×Ml)}{m:List Mg}{all:Bool}
def aty(a:dL h F ps A pl ib cb fb vm vl I)(hA:A.Small)(vk:VwK h J pv box had m vw)(hm:m.length<50)(hs:(Wn A.mails box).Pairwise λx y=>x.1<y.1)(a2:(Wn A.mails box).length<50)
  (tk:TellOk (Wn A.mails box) m) (hh:∀y∈Wn A.mails box,y.1<=had):
  ∃h' vw',aaw [X pv 0,X ps 0,K all] h=D (H (nN (Wn A.mails box) 0 m)) h'/\VwK h' J pv box had (m.map (agM (Wn A.mails box))) vw'/\Ch J h h':=by
 obtain⟨now,ba⟩:∃now,now=Wn A.mails box:=⟨_,rfl⟩
 obtain⟨h1,ar,c1,-⟩:=mkW h (O (N 141 true) [.dn,.aP]);have n1:h1.next.nat=h.next.nat+1:=by rw[ar,bJ]
 have d1:Bd h.next.nat h1 h.next 0 141 [.dn,.aP] []:=by
  rw[ar];exact⟨l! _,by rw[bJ];omega,dY _ _,.inl rfl,⟨.aP,rfl,Ow.nil _ _ _ _,λj hj=>(by cases hj)⟩,aAB⟩
 have B0:=(vk.vw.nw c1).ld (q:=0) (x:=iV box) rfl;obtain⟨r,t,e2,o2,c2⟩:=XH (a.nw c1) hA hs a2;rw[<-ba]at hs a2 tk hh o2⊢;have R2:=(o2.rws dQ).mono (P':=λj=>h1.next.nat<=j.nat/\j.nat<t.next.nat) dQ λj hj q=>⟨q,hj⟩
 have n2:=c2.next;obtain⟨h3,au,c3,-⟩:=mkW t (O (N 242 true) [r]);have S3:aS 1 (X t.next 0) r (t.new (O (N 242 true) [.aP]))=D V.undef h3:=by rw[au];exact YQ R2.cell (by simp)
 have n3:h3.next.nat=t.next.nat+1:=by rw[au,bJ]
 have aE:=(c1.trans c2).trans c3;have u3:Upd h J pv box had now h.next t.next h3.next.nat (λj=>h1.next.nat<=j.nat/\j.nat<t.next.nat) r h3 m vw [] [.dn,.aP]:=
  {vk:=vk.ch aE λ_ _ q=>q
   bd:=d1.ch (c2.trans c3) λ_ _ _ q=>q
   ofb:=λj o=>o.elim .inl λ⟨v,e,hv⟩=>by cases e;cases hv
   nil:=λ_=>rfl
   rows:=R2.nw dQ c3
   cell:=by rw[au];exact Kn.new _ _
   ch:=aE.ch
   lt:=⟨by omega,by omega,l! _⟩
   pn_:=λj q=>⟨by omega,by omega,λe=>by rw[e]at q;omega⟩}
 have M:=vk.lt;rw[atm]
 suffices T:aV Tryz.prog [.tmp 6] (λr' h'=>r'=H (nN now 0 m)/\∃vw',VwK h' J pv box had (m.map (agM now)) vw'/\Ch J h h') (apn (T.set (some (K all)) (e! 2) (T.set (some (X ps 0)) (e! 1) (T.set (some (X pv 0)) (e! 0) T.nil))) h) by
  obtain⟨r',h',e,rfl,vw',q⟩:=T;exact⟨h',vw',e,q⟩
 simp only[vvB,seval,apn,amc,amb,axy,axx,axw,axv,axu,fG,<-ar,B0,e2,S3];refine Oc.then (dX (n:=m.length) (λ μ fr g=>∃(k:Nat),fr.get (e! 0)=some (X pv 0)/\fr.get (e! 2)=some (K all)/\fr.get (e! 7)=some (X h.next 0)/\fr.get (e! 8)=some (.func (.func 174) .nil (.cons (X h.next 0) .nil))/\fr.get (e! 9)=some (X t.next 0)/\fr.get (e! 10)=some (.func (.func 176) .nil (.cons (X t.next 0) .nil))/\fr.get (e! 11)=some (Y U (k:Int))/\k+μ=m.length/\Nw h3 g)
  (A:=λfr g=>fr.get (e! 0)=some (X pv 0)/\fr.get (e! 7)=some (X h.next 0)/\fr.get (e! 8)=some (.func (.func 174) .nil (.cons (X h.next 0) .nil))/\fr.get (e! 9)=some (X t.next 0)/\fr.get (e! 10)=some (.func (.func 176) .nil (.cons (X t.next 0) .nil))/\Nw h3 g) (B:=λ_ _=>False) (by rw[dR];omega) ?_ ?_) ?_ ?_
 ·exact⟨0,qK0,qK0,qK0,qK0,qK0,qK0,qK1,by omega,Nw.refl _⟩
 ·rintro μ fr g ⟨k,f0,f2,z,f8,f9,b,aR,hk,cg⟩;have u:=u3.nw cg;have P1:=u.vk.vw.ld (q:=1) (x:=vw) rfl;have ln:=u.vk.rws.len g;cases ha:all with
  |false=>
   rw[ha]at f2;simp(disch:=omega)only[vvB,seval,acp,abU,f0,f2];exact⟨rfl,qK2 f0,qK2 z,qK2 f8,qK2 f9,qK2 b,cg⟩
  |true=>
   rw[ha]at f2;by_cases hz:μ=0
   ·simp(disch:=omega)only[vvB,seval,acp,abU,f0,f2,aR,P1,ln];exact⟨rfl,qK2 f0,qK2 z,qK2 f8,qK2 f9,qK2 b,cg⟩
   ·obtain⟨x,hx⟩:∃x,m[k]?=some x:=⟨_,g! (by omega)⟩
    obtain⟨i,q,cs,ix,ex,-,-,-,-,lN⟩:=u.vk.rws.elt hx;obtain rfl:cs=mgC x:=ex;have Z:=lN g rfl;obtain⟨G,cs,f,e4,c4,ac,hf,hy⟩:=awM u.cell u.rows (by omega) x;rw[tk.found x (j! hx)]at hf;rw[hf]at e4;have ag:dD aal (.func (.func 176) .nil (.cons (X t.next 0) .nil)) [.agg (V.ofList (mgC x))] g=D (.tuple (.cons (.agg (V.ofList cs)) (.cons (K true) .nil))) G:=e4;obtain⟨g3,ad,Q,-⟩:=mkW G (O (N 250 true) cs);have S5:=aHD ac G;rw[<-ad]at S5;simp(disch:=omega)only[vvB,seval,acp,abU,axt,asP,abV,f0,f2,b,aR,P1,ln,ix,Z,ag,S5];exact⟨μ - 1,by omega,k+1,qK2 f0,qK2 f2,qK2 z,qK2 f8,qK2 f9,qK2 b,qK1,by omega,(cg.trans c4).trans Q⟩
 ·rintro fr g ⟨f0,z,f8,f9,b,cg⟩;have u:=u3.nw cg;have P1:=u.vk.vw.ld (q:=1) (x:=vw) rfl;have ln:=u.vk.rws.len g;have ng:=cg.next;simp only[vvB,seval,asN,f0,P1,ln];refine Oc.then (dP (σ:=Unit) (n:=m.length) (pi:=78) (pn:=77) (pc:=79) [0,7,8,9,10,76] (λ_=> [X pv 0,X h.next 0,.func (.func 174) .nil (.cons (X h.next 0) .nil),X t.next 0,.func (.func 176) .nil (.cons (X t.next 0) .nil),vw])
   (λk _ g'=>∃L:List V,h3.next.nat<=g'.next.nat/\Upd h J pv box had now h.next t.next h3.next.nat (λj=>h1.next.nat<=j.nat/\j.nat<t.next.nat) r g' ((m.take k).map (agM now)++m.drop k) vw (nN now 0 (m.take k)) L/\(nN now 0 (m.take k)).length<=12000*k)
   (A:=λfr g'=>fr.get (e! 0)=some (X pv 0)/\fr.get (e! 7)=some (X h.next 0)/\fr.get (e! 9)=some (X t.next 0)/\∃L:List V,h3.next.nat<=g'.next.nat/\Upd h J pv box had now h.next t.next h3.next.nat (λj=>h1.next.nat<=j.nat/\j.nat<t.next.nat) r g' (m.map (agM now)) vw (nN now 0 m) L/\(nN now 0 m).length<=12000*m.length) (B:=λ_ _=>False) (s:=())
   (λfr h _ k e1 e2=>by simp only[vvB,seval,asM,e1,e2]) (λfr h k _ e1=>by simp(disch:=omega)only[vvB,seval,asJ,e1]) (by decide) (by rw[dR];omega) (qK0) (qK0) (by simp only[Fa,vvB,seval,f0,z,f8,f9,b,and_self]) ⟨_,ng,u,by simp[nN]⟩ ?_ ?_) ?_ ?_
  ·intro k _ fr g' hk ai a1 fa hI;obtain⟨f0,z,f8,f9,b,ah,-⟩:=fa;obtain⟨L,ht,u,aj⟩:=hI;obtain⟨x,hx⟩:∃x,m[k]?=some x:=⟨_,g! hk⟩
   have ax:=j! hx;have a7:((m.take k).map (agM now)).length=k:=by rw[r!,E!];omega
   have aw:((m.take k).map (agM now)++m.drop k)[k]?=some x:=by
    rw[List.getElem?_append_right (by omega),a7,List.getElem?_drop,show k+(k - k)=k by omega];exact hx
   obtain⟨i,q,cs,ix,ex,-,-,-,-,lN⟩:=u.vk.rws.elt aw;obtain rfl:cs=mgC x:=ex;have Z:=lN g' rfl;obtain⟨G,ao⟩:∃G,G=g'.new (O (N 248 true) (mgC x)):=⟨_,rfl⟩
   have S2:=mkT 3 zVm ao;have aL:Nw g' G:=by rw[ao];exact Nw.new _ _
   have k2:Kn G g'.next (O (N 248 true) (mgC x)):=by rw[ao];exact Kn.new _ _
   have u2:=u.nw aL;have bL:=aL.next;obtain⟨g3,cs,f,e4,c4,ac,hf,hy⟩:=atx u2.cell u2.rows (by omega) (λj q=>by omega) x;rw[tk.found x ax]at hf;rw[hf]at e4;have ag:dD aal (.func (.func 176) .nil (.cons (X t.next 0) .nil)) [.agg (V.ofList (mgC x))] G=D (.tuple (.cons (.agg (V.ofList cs)) (.cons (K true) .nil))) g3:=e4;obtain⟨g4,bp,Q,k4⟩:=mkW g3 (O (N 250 true) cs);have S5:=aHD ac g3;rw[<-bp]at S5;have N2:=k2.ldN (n:=3) rfl;obtain⟨y,W⟩:∃y,pX now x=some y:=Option.isSome_iff_exists.1 (tk.found x ax);obtain⟨aa,ak,bo,rk⟩:=hy y W;rw[bo]at k4;have bj:y∈now:=k! W;have T2:=((k2.nw c4).nw Q).ld (q:=2) (x:=X x.at_ 0) rfl;have C:=(u2.nw c4).nw Q;have af:x∈(m.take k).map (agM now)++m.drop k:=j! aw;have a4:=Xy (n:=x.told) (C.vk.told x af) (q:=0) rfl;have M7:=k4.ld (q:=7) (x:=iV y.2.mod) rfl;have cM:∀{k:Out},chk (λh=>aF (X g3.next 7) h) (iV y.2.mod) k 1 [g4]=k:=qw rfl M7;have be:m.take (k+1)=m.take k++ [x]:=Go.Vm.take_snoc hx;have bg:nN now 0 (m.take (k+1))=nN now 0 (m.take k)++agT now k x:=by
    rw[be,amJ,E!,Nat.zero_add,Nat.min_eq_left (by omega)]
   have a8:(m.take (k+1)).map (agM now)++m.drop (k+1)=(m.take k).map (agM now)++(agM now x::m.drop (k+1)):=by
    rw[be,q!,C!];rfl
   have a5:m.drop k=x::m.drop (k+1):=by rw[List.drop_eq_getElem_cons hk];rw[g! hk]at hx;cases hx;rfl
   by_cases hg:y.2.mod>x.told
   ·have eT:agT now k x=FQ (k+1) (uT x y):=by unfold agT;rw[W];simp only[];rw[if_pos hg]
    have eM:agM now x={x with told:=y.2.mod}:=by unfold agM;rw[W];simp only[];rw[if_pos hg]
    rw[bg,a8,eT,eM];have E:(y.2.mod>x.told)=True:=eq_true hg;have bh:=tk.uid x ax;have a9:=tk.mod y bj;have ae:=tk.keys y bj;obtain⟨l,ap⟩:∃l,l=g4.put x.at_ (some (O (N 75 true) [iV y.2.mod])):=⟨_,rfl⟩
    have bm:VwK l J pv box had (((m.take k).map (agM now)++m.drop k).set k {x with told:=y.2.mod}) vw:=by rw[ap];exact C.vk.tell aw y.2.mod
    have bc:((m.take k).map (agM now)++m.drop k).set k {x with told:=y.2.mod}=(m.take k).map (agM now)++({x with told:=y.2.mod}::m.drop (k+1)):=by
     rw[a5,List.set_append,if_neg (by omega),a7,Nat.sub_self];rfl
    rw[bc]at bm;have a3:J x.at_:=C.vk.foot.2.2 x af;have ab:Ch (λj=>j=x.at_) g4 l:=by rw[ap];exact Ch.put _ _ rfl
    have u5:=C.del M bm (ab.mono λj _ e=>by rw[e];exact a3);obtain⟨uu,aD⟩:=CG (n:=y.2.mod) (C.vk.told x af) (q:=0) (by simp);rw[show([iV x.told]:List V).set 0 (iV y.2.mod)= [iV y.2.mod] from rfl,<-ap]at aD;have bi:=M _ a3;have bq:Kn l g'.next (O (N 248 true) (mgC x)):=((k2.nw c4).nw Q).ch ab λe=>by rw[<-e]at bi;omega
    have bM:=c4.next;have br:Kn l g3.next (O (N 250 true) (thC y aa ak)):=k4.ch ab λe=>by rw[<-e]at bi;omega
    have bv:=rk.nw (aJ _) Q;have bw:Rws (λj=>h1.next.nat<=j.nat/\j.nat<t.next.nat) (flat dN) 1 l aa y.2.keys:=bv.ch (aJ _) ab λj _ q=>⟨q,λe=>by rw[e]at q;omega⟩
    have cb:Nw l (aK 1 l):=Nw.bump 1 l;have bs:=bq.bump 1;have ay:=br.bump 1;have U0:=bs.ld (q:=0) (x:=iV x.uid) rfl;have eu:((x.uid.toNat:Nat):Int)=x.uid:=A! bh.1;have em:((y.2.mod.toNat:Nat):Int)=y.2.mod:=A! a9.1;have D1:=Gw (n:=x.uid.toNat) (by omega) (aK 1 l);rw[eu]at D1;have K5:=ay.ld (q:=5) (x:=aa) rfl;obtain⟨h9,e9,c9⟩:=atn (bw.nw (aJ _) cb) ae.1 ae.2;have M9:=(ay.nw c9).ld (q:=7) (x:=iV y.2.mod) rfl;have Mb:=ay.ld (q:=7) (x:=iV y.2.mod) rfl;have D2:=Gw (n:=y.2.mod.toNat) (by omega) h9;rw[em]at D2;have d1:=kQ (n:=x.uid.toNat) (by omega);have d2:=kQ (n:=y.2.mod.toNat) (by omega);have fl:=anA ae.1 ae.2;have A1:∀g,aH .add .none (H [77,79,68,83,69,81,32,40]) (H (dZ y.2.mod.toNat)) g=D (H ([77,79,68,83,69,81,32,40]++dZ y.2.mod.toNat)) g:=λg=>dw (by simp;omega);have A2:∀g,aH .add .none (H ([77,79,68,83,69,81,32,40]++dZ y.2.mod.toNat)) (H [41,41]) g=D (H ([77,79,68,83,69,81,32,40]++dZ y.2.mod.toNat++ [41,41])) g:=λg=>dw (by simp;omega);have AB:eH 9 [H [],H [],H [],H [],H []] 5 [(0,1,(H [70,69,84,67,72,32,40,85,73,68])),(1,1,H (dZ x.uid.toNat)),(2,1,(H [70,76,65,71,83])),(3,1,H (fO y.2.keys)),(4,1,H ([77,79,68,83,69,81,32,40]++dZ y.2.mod.toNat++ [41,41]))]=some (O (N 9 true) ((uT x y).map H),λp=>.slice p 0 5 (.kn 5)):=(rfl)
    have nb:(aK 1 l).next.nat=l.next.nat+1:=sZ 1 l;have n9:=c9.next;obtain⟨g6,aq⟩:∃g6,g6=h9.put l.next (some (O (N 9 true) ((uT x y).map H))):=⟨_,rfl⟩
    have aM:Nw l g6:=by rw[aq];exact(cb.trans c9).put (l! _) _
    have u6:=u5.nw aM;have bu:Kn g6 l.next (O (N 9 true) ((uT x y).map H)):=by
     rw[aq];exact⟨kJ _ _ _,by rw[jQ];omega⟩
    have R6:Rws (λj=>j=l.next) (flat dN) 1 g6 (.slice l.next 0 (uT x y).length (.kn 5)) (uT x y):=Kn.rws (c:=dN) (sz:=1) (by rw[anx];exact bu) (λ_=>rfl) anH;obtain⟨bx,a6,bE,bl,bt,p6⟩:=R6;obtain rfl:=a6.flat;rw[anx]at bl;obtain⟨bB,av,bb⟩:=aqv bh a9 ae;obtain⟨rr,g7,L7,e7,d7,p7⟩:=aIU u6.bd (n:=k+1) (by omega) bl bt (by simp[uT]) (by omega) av (.inr (by simp[uT,dH])) (by omega);have bf:nN now 0 (m.take k)++FQ (k+1) (uT x y)≠ []:=by simp[FQ]
    have n6:=aM.next;have bO:=ab.next;have bN:=Q.next;have u7:=u6.say M (by omega) d7 p7 bf;have n7:=p7.ch.next;have bn:dD aal (.func (.func 174) .nil (.cons (X h.next 0) .nil)) [Y U ((k:Int)+1),.slice l.next 0 5 (.kn 5)] g6=D rr g7:=by
     have hc:((k+1:Nat):Int)=(k:Int)+1:=by omega
     rw[hc]at e7;exact e7
    simp(disch:=omega)only[vvB,seval,ahf,ahe,ahd,asL,asK,f8,ah,ai,b,ix,Z,S2,N2,ag,S5,T2,a4,K!,M7,cM,E,decide_true,aD,U0,D1,K5,e9,M9,Mb,D2,A1,A2,qw (v:=H (dZ x.uid.toNat)) rfl D1,afU rk.noF K5 K5,qw rk.noF K5,afU (v:=iV y.2.mod) rfl M9 Mb,afU (v:=iV y.2.mod) rfl Mb Mb,qw (v:=iV x.uid) rfl U0,AB,<-aq,bn];have bz:(FQ (k+1) (uT x y)).length<=12000:=(bb k (by omega)).1;exact⟨qK2 ai,qK2 a1,(),by simp only[Fa,vvB,seval,f0,z,f8,f9,b,ah,and_self],L7,by omega,u7,by rw[o!];omega⟩
   ·have eT:agT now k x= []:=by unfold agT;rw[W];simp only[];rw[if_neg hg]
    have eM:agM now x=x:=by unfold agM;rw[W];simp only[];rw[if_neg hg]
    have E:(y.2.mod>x.told)=False:=eq_false hg;rw[bg,a8,eT,eM,I!,<-a5];simp(disch:=omega)only[vvB,seval,ahf,ahe,ahd,ah,ai,b,ix,Z,S2,N2,ag,S5,T2,a4,K!,M7,cM,E];have n4:=(c4.trans Q).next;exact⟨qK2 ai,qK2 a1,(),by simp only[Fa,vvB,seval,f0,z,f8,f9,b,ah,and_self],L,by omega,C,by omega⟩
  ·intro _ fr g' fa hI;obtain⟨f0,z,f8,f9,-⟩:=fa;obtain⟨L,ht,u,aj⟩:=hI;rw[D!,List.drop_length,I!]at u;rw[D!]at aj;exact⟨f0,z,f9,L,ht,u,aj⟩
  ·rintro fr G ⟨f0,z,f9,L1,ht,u2,aj⟩;have P2:=u2.vk.vw.ld (q:=1) (x:=vw) rfl;have Q2:=u2.vk.vw.ld (q:=2) (x:=iV had) rfl;have bk:=u2.vk.rws.len G;rw[r!]at bk;have R9:=u2.cell.ld (q:=0) (x:=r) rfl;have rl:=u2.rows.len G;simp only[vvB,seval,asI,asH,f0,f9,P2,Q2,bk,R9,rl];refine Oc.then (dP (σ:=Unit) (n:=now.length) (pi:=135) (pn:=134) (pc:=136) [0,7,18,19,133] (λ_=> [X pv 0,X h.next 0,iV had,Y U (m.length:Int),r]) (λk _ g'=>Nw G g')
    (A:=λfr g'=>fr.get (e! 0)=some (X pv 0)/\fr.get (e! 7)=some (X h.next 0)/\fr.get (e! 19)=some (Y U (m.length:Int))/\Nw G g') (B:=λ_ _=>False) (s:=())
    (λfr h _ k e1 e2=>by simp only[vvB,seval,asG,e1,e2]) (λfr h k _ e1=>by simp(disch:=omega)only[vvB,seval,asD,e1]) (by decide) (by rw[dR];omega) (qK0) (qK0) (by simp only[Fa,vvB,seval,f0,z,and_self]) (Nw.refl _) ?_ ?_) ?_ ?_
   ·intro k _ fr g' hk am a0 fa c';obtain⟨f0,z,an,S,al,-⟩:=fa;obtain⟨y,hy⟩:∃y,now[k]?=some y:=⟨_,g! hk⟩
    obtain⟨i,q,cs,ix,ex,ac,-,-,-,lN⟩:=(u2.nw c').rows.elt hy;obtain⟨aa,ak,rfl,-,-⟩:=ex;have Z:=lN g' rfl;obtain⟨g3,ad⟩:∃g3,g3=g'.new (O (N 250 true) (thC y aa ak)):=⟨_,rfl⟩
    have S5:=aHD ac g';rw[<-ad]at S5;have Q:Nw g' g3:=by rw[ad];exact Nw.new _ _
    have k3:Kn g3 g'.next (O (N 250 true) (thC y aa ak)):=by rw[ad];exact Kn.new _ _
    have Y0:=k3.ld (q:=0) (x:=iV y.1) rfl;have bA:=hh y (j! hy);have E:(y.1>had)=False:=eq_false (by omega);simp(disch:=omega)only[vvB,seval,asF,asE,al,am,an,ix,Z,S5,Y0,E];exact⟨qK2 am,qK2 a0,(),by simp only[Fa,vvB,seval,f0,z,an,S,al,and_self],c'.trans Q⟩
   ·intro _ fr g' fa c';obtain⟨f0,z,an,S,-⟩:=fa;exact⟨f0,z,S,c'⟩
   ·rintro fr g4 ⟨f0,z,S,c'⟩;have C:=u2.nw c';have P4:=C.vk.vw.ld (q:=1) (x:=vw) rfl;have az:=C.vk.rws.len g4;rw[r!]at az;have E:(((m.length:Nat):Int)>(m.length:Int))=False:=eq_false (by omega);by_cases he:nN now 0 m= []
    ·have S0:=aCM (L:=L1) ⟨C.bd.get,C.bd.hi⟩ (C.nil he);simp only[vvB,seval,ahc,ahb,f0,z,S,P4,az,E,S0];exact aV.ret (qT0) ⟨by rw[he],vw,C.vk,C.ch⟩
    ·have hb:∀c∈nN now 0 m,c<256:=arP tk.uid tk.mod tk.keys (by omega);obtain⟨l,e5,Q,n5⟩:=afk C.bd he hb (by omega);simp only[vvB,seval,ahc,ahb,f0,z,S,P4,az,E,e5];refine aV.ret (qT0) ⟨rfl,vw,C.vk.ch Q λj q o=>?_,C.ch.trans Q λj hj o=>?_⟩
     ·have:=M j q;have:=(o.1.from C.bd _).1;omega
     ·have:=(o.1.from C.bd _).1;omega
   ·intro fr g q;exact q.elim
  ·intro fr g q;exact q.elim
 ·intro fr g q;exact q.elim
end
end Go.Proofs.Im
namespace Go.Im
abbrev K3:Type:=Int×Int×Int
def WN(now:List (Int×Ml))(x:K3):Option (Int×Ml):=now.find? λy=>decide (y.1=x.1)&&decide (y.2.id=x.2.1)
def aIs(u:Int)(y:Int×Ml):List (List Nat):= [[70,69,84,67,72,32,40,85,73,68],dZ u.toNat,[70,76,65,71,83],fO y.2.keys,[77,79,68,83,69,81,32,40]++dZ y.2.mod.toNat++ [41,41]]
def agK(now:List (Int×Ml))(i:Nat)(x:K3):List Nat:=match WN now x with
 |some y=>if y.2.mod>x.2.2 then FQ (i+1) (aIs x.1 y) else []
 |none=> []
def ald(now:List (Int×Ml))(x:K3):K3:=match WN now x with
 |some y=>if y.2.mod>x.2.2 then(x.1,x.2.1,y.2.mod) else x
 |none=>x
def kW(now:List (Int×Ml)):Nat->List K3->List Nat
 |_,[]=> []
 |i,x::l=>agK now i x++kW now (i+1) l
def az4(now:List (Int×Ml)):∀(l:List Mg) (i:Nat),nN now i l=kW now i (l.map mgK)
 | [],_=>rfl
 |x::l,i=>by
  show agT now i x++nN now (i+1) l=agK now i (mgK x)++kW now (i+1) (l.map mgK);rw[az4 now l (i+1)];rfl
def aTb(now:List (Int×Ml))(l:List Mg):(l.map (agM now)).map mgK=(l.map mgK).map (ald now):=by
 rw[L!,L!];apply n!;intro x _;show mgK (agM now x)=ald now (mgK x);unfold agM ald;rw[show WN now (mgK x)=pX now x from rfl];cases e:pX now x with
 |none=>rfl
 |some y=>
  simp only[];by_cases h:y.2.mod>x.told
  ·rw[if_pos h,if_pos (show y.2.mod>(mgK x).2.2 from h)];rfl
  ·rw[if_neg h,if_neg (show ¬y.2.mod>(mgK x).2.2 from h)]
def sH(A:Acc):Option (Int×Int×List K3)->List Nat
 |none=> []
 |some (box,had,l)=>kW (Wn A.mails box) 0 l
def FD(A:Acc):Option (Int×Int×List K3)->Option (Int×Int×List K3)
 |none=>none
 |some (box,had,l)=>some (box,had,l.map (ald (Wn A.mails box)))
structure CanTell (A:Acc) (ks:Int×Int×List K3):Prop where
 small:A.Small
 few:ks.2.2.length<50
 sorted:(Wn A.mails ks.1).Pairwise λx y=>x.1<y.1
 few2:(Wn A.mails ks.1).length<50
 found:∀x∈ks.2.2,(WN (Wn A.mails ks.1) x).isSome=true
 uid:∀x∈ks.2.2,0<=x.1/\x.1<100
 mod:∀y∈Wn A.mails ks.1,0<=y.2.mod/\y.2.mod<100
 keys:∀y∈Wn A.mails ks.1,y.2.keys.length<=20/\∀s∈y.2.keys,s.length<=100/\(∀c∈s,c<256)/\s≠ []
 had:∀y∈Wn A.mails ks.1,y.1<=ks.2.1
def oW(k:Int)(a tx s2:List Nat)(bare:Bool)(st2:Sn):List Nat:=if k=1 then a++noS++tx++ [13,10] else if bare=true then s2++okT a tx else s2++sH st2.acc st2.vw++okT a tx
def sW(k:Int)(bare:Bool)(st2:Sn):Sn:=if k=1\/bare=true then st2 else{st2 with vw:=FD st2.acc st2.vw}
def arQ{now:List (Int×Ml)}(d:∀y∈now,0<=y.2.mod/\y.2.mod<100)(b:∀y∈now,y.2.keys.length<=20/\∀s∈y.2.keys,s.length<=100/\(∀c∈s,c<256)/\s≠ []):∀{l:List K3} {i:Nat},(∀x∈l,0<=x.1/\x.1<100)->i+l.length<99->(kW now i l).length<=12000*l.length/\∀c∈kW now i l,c<256
 | [],_,_,_=>⟨by simp[kW],λc h=>by simp[kW]at h⟩
 |x::l,i,e,hi=>by
  simp only[F!]at hi⊢;have q:=arQ d b (l:=l) (i:=i+1) (λz o=>e z (by simp[o])) (by omega);have j:(agK now i x).length<=12000/\∀c∈agK now i x,c<256:=by
   unfold agK;split
   ·rename_i y k;have a:y∈now:=k! k;split
    ·exact(aqv (x:={uid:=x.1,id:=x.2.1,told:=x.2.2,at_:=.h}) (e x (by simp)) (d y a) (b y a)).2.2 i (by omega)
    ·exact⟨by simp,λc h=>by simp at h⟩
   ·exact⟨by simp,λc h=>by simp at h⟩
  show(agK now i x++kW now (i+1) l).length<=_/\∀c∈agK now i x++kW now (i+1) l,c<256;refine⟨by rw[o!];omega,λc h=>?_⟩;rcases a!.1 h with h|h
  ·exact j.2 c h
  ·exact q.2 c h
end Go.Im
namespace Go.Proofs.Im
section
variable{bb:Nat}{h h' h0:Hp}{P F I J Z:Pos->Prop}{ps pl ib pv ir pc im i:Pos}{A:Acc}{cb:Cap}{fb uid only:Bool}{vm vl vv vw:V}{had:Int}{st:Sn}{L:List V}{s:List Nat}{w:Wds}{ks:Int×Int×List (Int×Int×Int)}{f:Nat}{m:List Mg}
def auA{A:Acc}{o:Option (Int×Int×List K3)}(b:∀ks,o=some ks->CanTell A ks):(sH A o).length<=600000/\∀c∈sH A o,c<256:=by
 cases o with
 |none=>exact⟨by simp[sH],λc a=>by simp[sH]at a⟩
 |some ks=>
  have h:=b ks rfl;have d:=h.few;have:=arQ h.mod h.keys (l:=ks.2.2) (i:=0) h.uid (by omega);exact⟨v! this.1 (by omega),this.2⟩
def Rq.aTy{all:Bool}(q:Rq bb h0 Z h pc im ps ir uid w s st L vw P F J pl ib cb fb vm vl vv I)(y:∀ks,st.vw=some ks->CanTell st.acc ks)(r:all=false->∀ks,st.vw=some ks->an2 st.acc ks):
  ∃h',aaw [vv,X ps 0,K all] h=D (H (sH st.acc st.vw)) h'/\Rq bb h0 Z h' pc im ps ir uid w s {st with vw:=FD st.acc st.vw} L vw P F J pl ib cb fb vm vl vv I/\Ch J h h':=by
 have b:=q.wd.view;cases d:st.vw with
 |none=>
  rw[d]at b;refine⟨h,by rw[b.1];exact awN _ _ _,?_,Ch.refl _ _⟩;have:({st with vw:=FD st.acc none}:Sn)=st:=by cases st;simp only[FD]at d⊢;subst d;rfl
  rw[this];exact q
 |some ks=>
  have a:=y ks d;rw[d]at b;obtain⟨pv,vwr,m,rfl,vk,l⟩:=b;have u:m.length=ks.2.2.length:=by have:=congrArg List.length l;simpa using this
  have t:=a.few;have mem:∀x∈m,mgK x∈ks.2.2:=λx k=>by rw[<-l];exact List.mem_map_of_mem k
  obtain⟨h',vw',e1,o,c⟩:=aty (all:=all) q.wd.acc a.small vk (by omega) a.sorted a.few2 ⟨λx k=>a.found (mgK x) (mem x k),λx k=>a.uid (mgK x) (mem x k),a.mod,a.keys⟩ a.had;have w':World h' pc im ps {st with vw:=FD st.acc (some ks)} F J pl ib cb fb vm vl (X pv 0) I:=
   {acc:=q.wd.acc.ch c λj f=>(q.wd.fj j f).1
    con:=q.wd.con.ch c λj=>(q.wd.jn _ j).1 rfl
    map:=q.wd.map.ch c λj=>(q.wd.jn _ j).2 rfl
    view:=⟨pv,vw',m.map (agM (Wn st.acc.mails ks.1)),rfl,o,by rw[aTb,l]⟩
    ne:=q.wd.ne
    fj:=q.wd.fj
    jn:=q.wd.jn}
  refine⟨h',?_,q.turn w' c (λj e=>.inr (.inl e)) λj e=>.inl e,c⟩;rw[e1,az4,l];rfl
end
section
variable{h h' g:Hp}{P F I J S:Pos->Prop}{ps pl ib p pc im:Pos}{cb:Cap}{fb only last bare part:Bool}{v vm vl vv vw:V}{st st2:Sn}{s s2 tx:List Nat}{w:Wds}{ks:Int×Int×List (Int×Int×Int)}{f n:Nat}{now:List (Int×Ml)}{m:List Mg}
def aSy{g:Ln.Got}{x y:Wd}{kk now:Int}(W:World h pc im ps st F J pl ib cb fb vm vl vv I)(tw:WS P h vw g.words)(hP:∀j,P j->¬Ft F J pc im j)(hk:g.kind=1)(am:g.words.get? 0=some x)(a0:x.kind=1)(af:g.words.get? 1=some y)(a1:y.kind=1)
  (M:x.text.length<=1000000/\∀c∈x.text,c<256) (a3:y.text.length<=1000000/\∀c∈y.text,c<256) (bf:0<=st.cnt/\st.cnt<1000000) (aa:Jj pc im ps (g.words.drop 2) (foldM y.text) {st with cnt:=st.cnt+1} (anL kk tx last bare part) s2 st2)
  (aR:kk=0\/kk=1) (G:tx.length<=1000/\∀c∈tx,c<256) (ak:s2.length<=100000/\∀c∈s2,c<256) (hu:kk=0->bare=false->∀ks,st2.vw=some ks->CanTell st2.acc ks) (hp:part=true->kk=0->bare=false->∀ks,st2.vw=some ks->an2 st2.acc ks):
  ∃h',aiB [X pc 0,X ps 0,Y U now,.agg (.cons (Y U g.kind) (.cons vw .nil))] h=D (.tuple (.cons (H (oW kk x.text tx s2 bare st2)) (.cons (K (if kk=1 then true else !last)) .nil))) h'/\WE h (Ft F J pc im) h' pc im ps (sW kk bare st2):=by
 obtain⟨k,C,c1,g1⟩:=mkW h (O (N 94 true) [Y U g.kind,vw]);have n1:k.next.nat=h.next.nat+1:=by rw[C,bJ]
 have ao:WS P k vw g.words:=tw.ch c1 λj _ q=>⟨q,λq=>q⟩
 have W1:=W.ch c1 λ_ _ q=>q;have G0:aF (X h.next 0) k=D (Y U 1) k:=by rw[<-hk];exact g1.ld rfl
 have G1:=g1.ld (q:=1) (x:=vw) rfl;have aE:abo g.words 0=true:=by unfold abo;rw[am];exact decide_eq_true a0
 have aL:abo g.words 1=true:=by unfold abo;rw[af];exact decide_eq_true a1
 have A0:KX [vw,Y U 0] k=D (K true) k:=by have:=ar9 ao 0;rwa[aE]at this
 have A1:KX [vw,Y U 1] k=D (K true) k:=by have:=ar9 ao 1;rwa[aL]at this
 have aj:2<=g.words.len:=by have:=Wds.MP af;omega
 obtain⟨st1,b⟩:∃st1,st1=({st with cnt:=st.cnt+1}:Sn):=⟨_,rfl⟩
 rw[<-b]at aa;obtain⟨a,E⟩:∃a,a=k.put pc (some (O (N tCn true) [K st1.inn,vv,K st1.only,iV st1.cnt,.map im])):=⟨_,rfl⟩
 have d:aax [X pc 3,Y U 1] k=D (Y U (st.cnt+1)) a:=by
  have:=ayC W1.con (q:=3) (n:=st.cnt) (m:=1) rfl (by omega) (by omega);rw[E,b];exact this
 have W2:World a pc im ps st1 F J pl ib cb fb vm vl vv I:=by
  rw[E];exact W1.anG (by rw[b]) (by rw[b];exact W1.view) λj q=>⟨λf=>(W1.fj j f).1 q,W1.jn j q⟩
 have c2:Ch (λj=>j=pc) k a:=by rw[E];exact Ch.put _ _ rfl
 have n2:a.next.nat=h.next.nat+1:=by rw[E,jQ,n1]
 have ac:Ch (Ft F J pc im) h a:=(c1.ch (S:=Ft F J pc im)).trans (c2.mono λj _ e=>.inr (.inr (.inl e))) λ_ _ q=>q;have hZ:∀j,Ft F J pc im j->j.nat<h.next.nat:=W.lt;have g2:Kn a h.next (O (N 94 true) [Y U g.kind,vw]):=g1.ch c2 λe=>by have:=hZ _ (.inr (.inr (.inl e)));omega
 have ap:WS P a vw g.words:=tw.ch ac λj _ q=>⟨q,hP j q⟩
 have G2:=g2.ld (q:=1) (x:=vw) rfl;obtain⟨v',es,ab⟩:=ap.from aj;have ad:∀h',fM 3 vw (some (Y U 2)) none none h'=D v' h':=es;obtain⟨t,B,c3,-⟩:=mkW a (O (N 143 true) [X pc 0,X ps 0,Y U now,v',K false,.dn,.aP]);have n3:t.next.nat=a.next.nat+1:=by rw[B,bJ]
 have g3:t.get a.next=some (O (N 143 true) [X pc 0,X ps 0,Y U now,v',K false,.dn,.aP]):=by rw[B];exact dY _ _
 have d3:Bd a.next.nat t a.next 5 143 [X pc 0,X ps 0,Y U now,v',K false,.dn,.aP] []:=
  ⟨l! _,by omega,g3,.inl rfl,⟨.aP,rfl,Ow.nil _ _ _ _,λj hj=>(by cases hj)⟩,aKW⟩
 have a8:WS P t v' (g.words.drop 2):=ab.ch c3 λj _ q=>⟨q,λq=>q⟩
 have ar:WS P t vw g.words:=ap.ch c3 λj _ q=>⟨q,λq=>q⟩
 have G3:=(g2.nw c3).ld (q:=1) (x:=vw) rfl;have B0:=aEU (v:=v') (c:=X pc 0) (s:=X ps 0) (n:=now) a8.cell ⟨rfl,rfl⟩ ⟨rfl,rfl⟩ a;obtain⟨P',aD,aq⟩:∃P':Pos->Prop,(∀j,P' j->j.nat<a.next.nat/\¬Ft F J pc im j)/\WS P' t v' (g.words.drop 2):=
  ⟨λj=>P j/\j.nat<a.next.nat,λj q=>⟨q.2,hP j q.1⟩,(ab.ch (P':=λj=>P j/\j.nat<a.next.nat) (Nw.refl a) λj hj q=>⟨⟨q,hj⟩,λq=>q⟩).ch c3 λj _ q=>⟨q,λq=>q⟩⟩
 obtain⟨j,q,vk,i1,i2,i3,i4,-⟩:=WS.at ar af;have ag:∀h',aX 3 vw (Y U 1) h'=D (X j q) h':=i1;have ah:aF (X j (q+1)) t=D (H y.text) t:=i3;obtain⟨rf,h4,e4,rfl,c4⟩:=alB (h:=t) (by omega) a3.2;have ax:Nw t h4:=c4;have q3:Rq a.next.nat a (Ft F J pc im) t pc im ps a.next false (g.words.drop 2) [] st1 [X pc 0,X ps 0,Y U now,v',K false,.dn,.aP] v' P' F J pl ib cb fb vm vl vv I:=
  {bd:=d3
   hbb:=l! _
   ob:=λj o=>.inr (o.from d3 _).1
   l0:=rfl
   l1:=rfl
   l3:=rfl
   l4:=rfl
   ws:=aq
   wd:=W2.ch c3 λ_ _ q=>q
   dis:=λj o f=>by have:=(o.from d3 _).1;have:=hZ j f;omega
   old:=aD
   foot:=λj f=>.inl f
   chz:=c3.ch}
 obtain⟨h5,be,P5,w5,au,e5,r5⟩:=aa _ _ _ _ _ _ _ _ _ _ _ _ _ _ _ _ _ _ (q3.nw ax);obtain⟨L5,F5,J5,a7,a4,ay,az,bc,ba,av,I5,q5⟩:=r5;obtain⟨h7,aM,c7,k7⟩:=mkW h5 (O (N tA true) (anL kk tx last bare part));have S7:aS 5 (X h5.next 0) (anV kk tx last bare part) (h5.new (O (N tA true) zAn))=D V.undef h7:=by rw[aM];exact BK (V.iI _) rfl rfl
 have q7:=q5.nw c7;have an:¬OfB a.next 5 L5 h5.next:=λo=>by have:=(o.from q5.bd _).2;omega
 have a6:¬Ft F5 J5 pc im h5.next:=λf=>by have:=q5.wd.lt _ f;omega
 have aw:Ch (Ft F J pc im) h h7:=ac.trans q7.chz λ_ _ q=>q;have a9:WS P h7 vw g.words:=tw.ch aw λj _ q=>⟨q,hP j q⟩
 have g7:Kn h7 h.next (O (N 94 true) [Y U g.kind,vw]):=g2.ch q7.chz λf=>by have:=hZ _ f;omega
 have G7:=g7.ld (q:=1) (x:=vw) rfl;obtain⟨jt,qt,vt,t1,t2,t3,t4,-⟩:=WS.at a9 am;have ai:∀h',aX 3 vw (Y U 0) h'=D (X jt qt) h':=t1;have K0:=k7.ld (q:=0) (x:=Y U kk) rfl;have K1:=k7.ld (q:=1) (x:=H tx) rfl;have K3:=k7.ld (q:=3) (x:=K bare) rfl;have back:∀{h8:Hp} {s8:Sn},WE a (Ft F J pc im) h8 pc im ps s8->WE h (Ft F J pc im) h8 pc im ps s8:=λ⟨F,J,pl,ib,cb,fb,vm,vl,vv,I,w,hf,c⟩=>⟨F,J,pl,ib,cb,fb,vm,vl,vv,I,w,λj f=>(hf j f).imp id λl=>by omega,ac.trans c λ_ _ q=>q⟩
 rw[aJV,aJB]
 suffices T:aV Tryz.prog [.tmp 8,.tmp 9] (λr h'=>r=.tuple (.cons (H (oW kk x.text tx s2 bare st2)) (.cons (K (if kk=1 then true else !last)) .nil))/\WE h (Ft F J pc im) h' pc im ps (sW kk bare st2))
   (aB Uh (aB (bD 0 (aB Ug (tT 13 (aB ara u!) (aB Uf (tT 20 (aB aq9 u!) (aB Ue (tT 24 (aB aq8 u!) M!))))))) (aB Ud (aB Ub (aB TY (aB Nv (aB (bD 1 (aB Nu (tT 66 (aB abT u!) (aB VS (tT 76 (aB al4 u!) M!))))) (aB (aB VR (tT 88 abS M!)) doX)))))))
    (T.set (some (.agg (.cons (Y U g.kind) (.cons vw .nil)))) (e! 3) (T.set (some (Y U now)) (e! 2) (T.set (some (X ps 0)) (e! 1) (T.set (some (X pc 0)) (e! 0) T.nil)))) h) by
  obtain⟨r,h',e,rfl,w⟩:=T;exact⟨h',e,w⟩
 rcases aR with rfl|rfl
 ·have ae:(if(0:Int)=1 then true else !last)=!last:=if_neg (by decide);rw[ae];cases bare with
  |true=>
   have z:oW 0 x.text tx s2 true st2=s2++okT x.text tx:=by unfold oW;rw[if_neg (by decide),if_pos rfl]
   have u:sW 0 true st2=st2:=by unfold sW;rw[if_pos (.inr rfl)]
   rw[z,u];simp(disch:=omega)only[vvB,seval,Uh,Ug,Uf,Ue,Ud,Ub,TY,Nv,Nu,VS,VR,afJ,alu,<-C,fG,G0,G1,A0,A1,d,G2,ad,B0,<-B,G3,ag,ah,e4,e5,aaQ,S7,G7,ai,t3,K0,K3,w!,y!];exact asq (aFg q7 k7 an (by omega) ak.2 M.1 M.2 G.1 G.2 (qK0) (qK0) (qK0)) λr h' q=>⟨q.1,back q.2⟩
  |false=>
   have z:oW 0 x.text tx s2 false st2=s2++sH st2.acc st2.vw++okT x.text tx:=by unfold oW;rw[if_neg (by decide),if_neg (by simp)]
   have u:sW 0 false st2={st2 with vw:=FD st2.acc st2.vw}:=by unfold sW;rw[if_neg (by simp)]
   rw[z,u];have al:=hu rfl rfl;have C1:=q7.wd.con.ld (q:=1) (x:=av) rfl;have K4:=k7.ld (q:=4) (x:=K part) rfl;obtain⟨h8,e8,q8,c8⟩:=q7.aTy (all:=!part) al λe=>hp (by simpa using e) rfl rfl;have k8:=k7.ch c8 λjj=>a6 (.inr (.inl jj));have a2:=auA al;obtain⟨r9,h9,L9,e9,d9,p9,Q,l9⟩:=Uj q8.bd (sH st2.acc st2.vw) (by omega);have q9:Rq a.next.nat a (Ft F J pc im) h9 pc im ps a.next au w5 (s2++sH st2.acc st2.vw) {st2 with vw:=FD st2.acc st2.vw} L9 be P5 F5 J5 a7 a4 ay az bc ba av I5:=
    {bd:=d9
     hbb:=q8.hbb
     ob:=λj o=>(p9.sub j o).elim (q8.ob j) λl=>.inr (v! q8.chz.next l)
     l0:=by rw[Q 0 (by omega) (by omega)];exact q8.l0
     l1:=by rw[Q 1 (by omega) (by omega)];exact q8.l1
     l3:=by rw[Q 3 (by omega) (by omega)];exact q8.l3
     l4:=by rw[Q 4 (by omega) (by omega)];exact q8.l4
     ws:=q8.ws.ch p9.ch λj _ p=>⟨p,λo=>by have:=(q8.old j p).1;have:=(o.from q8.bd _).1;omega⟩
     wd:=q8.wd.ch p9.ch λj f o=>q8.dis j o f
     dis:=λj o f=>(p9.sub j o).elim (λo=>q8.dis j o f) λl=>by have:=q8.wd.lt j f;omega
     old:=q8.old
     foot:=q8.foot
     chz:=q8.chz.trans p9.ch λj hj o=>(q8.ob j o).resolve_right (by omega)}
   obtain⟨k9,a5⟩:=keepA p9 k8 an;simp(disch:=omega)only[vvB,seval,Uh,Ug,Uf,Ue,Ud,Ub,TY,Nv,Nu,VS,VR,abS,afJ,alu,<-C,fG,G0,G1,A0,A1,d,G2,ad,B0,<-B,G3,ag,ah,e4,e5,aaQ,S7,G7,ai,t3,K0,K3,C1,K4,e8,e9,w!,y!];exact asq (aFg q9 k9 a5 (by rw[o!];omega) (λc hc=>by rcases a!.1 hc with q|q;exact ak.2 c q;exact a2.2 c q) M.1 M.2 G.1 G.2 (qK0) (qK0) (qK0)) λr h' q=>⟨q.1,back q.2⟩
 ·have z:oW 1 x.text tx s2 bare st2=x.text++noS++tx++ [13,10]:=by unfold oW;rw[if_pos rfl]
  have u:sW 1 bare st2=st2:=by unfold sW;rw[if_pos (.inl rfl)]
  have ae:(if(1:Int)=1 then true else !last)=true:=if_pos rfl;rw[z,u,ae];have Sa:∀(x y:List Nat) (g:Hp),x.length+y.length<4000000->aH .add .none (H x) (H y) g=D (H (x++y)) g:=λx y g hl=>dw (by omega);have S1:=λg=>Sa x.text noS g (by simp;omega);have S2:=λg=>Sa (x.text++noS) tx g (by simp;omega);have S3:=λg=>Sa (x.text++noS++tx) [13,10] g (by simp;omega);simp(disch:=omega)only[vvB,seval,Uh,Ug,Uf,Ue,Ud,Ub,TY,Nv,Nu,abT,afJ,alu,<-C,fG,G0,G1,A0,A1,d,G2,ad,B0,<-B,G3,ag,ah,e4,e5,aaQ,S7,G7,ai,t3,K0,K1,S1,S2,S3,w!,y!];exact aV.ret (qT0) ⟨rfl,back q7.we⟩
end
section
variable{h g:Hp}{P F I J:Pos->Prop}{ps pl ib pc im:Pos}{cb:Cap}{fb last bare part:Bool}{vm vl vv vw:V}{st st2:Sn}{s2 tx:List Nat}{ks:Int×Int×List (Int×Int×Int)}
def oU.awv{g:Ln.Got}{x y:Wd}{kk:Int}(B:g.kind=1)(q:g.words.get? 0=some x)(j:x.kind=1)(r:g.words.get? 1=some y)(k:y.kind=1)
  (t:x.text.length<=1000000/\∀c∈x.text,c<256) (u:y.text.length<=1000000/\∀c∈y.text,c<256) (a:0<=st.cnt/\st.cnt<1000000) (b:Jj pc im ps (g.words.drop 2) (foldM y.text) {st with cnt:=st.cnt+1} (anL kk tx last bare part) s2 st2)
  (d:kk=0\/kk=1) (o:tx.length<=1000/\∀c∈tx,c<256) (l:s2.length<=100000/\∀c∈s2,c<256) (G:kk=0->bare=false->∀ks,st2.vw=some ks->CanTell st2.acc ks) (E:(oW kk x.text tx s2 bare st2).length<=2000000) (C:part=true->kk=0->bare=false->∀ks,st2.vw=some ks->an2 st2.acc ks:=by intro e;cases e):
  oU pc im ps g st (oW kk x.text tx s2 bare st2) (if kk=1 then true else !last) (sW kk bare st2):=
 ⟨E,λh F J pl ib cb fb vm vl vv I P vw W M z=>aSy W M z B q j r k t u a b d o l G C⟩
end
end Go.Proofs.Im
namespace Go.Im
def Quiet(A:Acc)(ks:Int×Int×List K3):Prop:=∀x∈ks.2.2,∀y,WN (Wn A.mails ks.1) x=some y->y.2.mod<=x.2.2
def am6{now:List (Int×Ml)}:∀{l:List K3} {i:Nat},(∀x∈l,∀y,WN now x=some y->y.2.mod<=x.2.2)->kW now i l= []/\l.map (ald now)=l
 | [],_,_=>⟨rfl,rfl⟩
 |x::l,i,h=>by
  obtain⟨c,d⟩:=am6 (l:=l) (i:=i+1) λy m=>h y (by simp[m]);have j:=h x (by simp);have a:agK now i x= []/\ald now x=x:=by
   unfold agK ald;cases e:WN now x with
   |none=>exact⟨rfl,rfl⟩
   |some y=>
    have:=j y e;simp only[];rw[if_neg (by omega),if_neg (by omega)];exact⟨rfl,rfl⟩
  refine⟨?_,by rw[J!,d,a.2]⟩;show agK now i x++kW now (i+1) l= [];rw[c,a.1];rfl
def Quiet.upd{A:Acc}{ks:Int×Int×List K3}(h:Quiet A ks):sH A (some ks)= []/\FD A (some ks)=some ks:=by
 obtain⟨box,had,l⟩:=ks;obtain⟨a,c⟩:=am6 (i:=0) h;exact⟨a,by show some (box,had,l.map _)=_;rw[c]⟩
end Go.Im
namespace Go.Proofs.Im
section
variable{bb:Nat}{h h' g h0:Hp}{P F I J Z:Pos->Prop}{ps pl ib ir pc im:Pos}{A:Acc}{cb:Cap}{fb only u last bare:Bool}{vm vl vv vw:V}{id:Int}{k f n:Nat}{b:Bx}{st:Sn}
def ayI(hi:st.inn=false)(a:st.vw=none)(d:0<=st.cnt/\st.cnt<1000):oU pc im ps av7 st (okT [97] []) true {st with cnt:=st.cnt+1,inn:=true}:=by
 have:=oU.awv (pc:=pc) (im:=im) (ps:=ps) (st:=st) (g:=av7) (x:=⟨1,[97],.nil⟩) (y:=⟨1,[76,79,71,73,78],.nil⟩) (kk:=0) (tx:= []) (last:=false) (bare:=false) (s2:= []) (st2:={st with cnt:=st.cnt+1,inn:=true}) rfl rfl rfl rfl rfl ⟨by decide,by decide⟩ ⟨by decide,by decide⟩ ⟨d.1,by omega⟩
  (Jj.of (n:=1) (f:=60) (u:=false) (by decide) rfl (.inr (.inl ⟨rfl,hi⟩)) (λbb ir vw P h0 Z h L F J pl ib cb fb vm vl vv I q=>by
   obtain⟨c,e,r⟩:=aD6 q rfl rfl rfl;exact⟨c,e,r⟩) rfl) (.inl rfl) ⟨by simp,by simp⟩ ⟨by simp,by simp⟩ (λ_ _ ks e=>by rw[show({st with cnt:=st.cnt+1,inn:=true}:Sn).vw=st.vw from rfl,a]at e;cases e) (by simp[oW,okT,lineS,dH,sH,a])
 have e1:oW 0 [97] [] [] false {st with cnt:=st.cnt+1,inn:=true}=okT [97] []:=by
  unfold oW;rw[if_neg (by decide),if_neg (by simp),show({st with cnt:=st.cnt+1,inn:=true}:Sn).vw=st.vw from rfl,a];rfl
 have e2:sW 0 false {st with cnt:=st.cnt+1,inn:=true}={st with cnt:=st.cnt+1,inn:=true}:=by
  unfold sW;rw[if_neg (by simp)];simp only[Sn.mk.injEq,true_and];rw[a];rfl
 rw[e1,e2]at this;exact this
def auS(hi:st.inn=true)(i:0<=st.cnt/\st.cnt<1000)(a:CanBox st.acc k b):oU pc im ps aqs st (qJ (Wn st.acc.mails b.id).length b.valid b.next st.acc.clock++okT [98] rwS) true {st with cnt:=st.cnt+1,only:=false,vw:=some (fC st.acc b.id)}:=by
 have c:=aDK (n:=(Wn st.acc.mails b.id).length) (by have:=a.few;omega) a.valid a.next ⟨a.small.clock.1,a.clock⟩;have:=oU.awv (pc:=pc) (im:=im) (ps:=ps) (st:=st) (g:=aqs) (x:=⟨1,[98],.nil⟩) (y:=⟨1,[83,69,76,69,67,84],.nil⟩) (kk:=0) (tx:=rwS) (last:=false) (bare:=true) (s2:=qJ (Wn st.acc.mails b.id).length b.valid b.next st.acc.clock) (st2:={st with cnt:=st.cnt+1,only:=false,vw:=some (fC st.acc b.id)}) rfl rfl rfl rfl rfl ⟨by decide,by decide⟩ ⟨by decide,by decide⟩ ⟨i.1,by omega⟩
  (Jj.of (n:=2) (f:=61) (u:=false) (by decide) rfl (.inr (.inr (.inl ⟨rfl,hi⟩))) (λbb ir vw P h0 Z h L F J pl ib cb fb vm vl vv I q=>by
   obtain⟨d,e,r⟩:=aGv q rfl rfl rfl a (by simp);exact⟨d,e,r⟩) rfl) (.inl rfl) ⟨by decide,by decide⟩ ⟨by omega,c.2⟩ (λ_ e=>by cases e) (by simp[oW,okT,lineS,dH];omega)
 have e1:oW 0 [98] rwS (qJ (Wn st.acc.mails b.id).length b.valid b.next st.acc.clock) true {st with cnt:=st.cnt+1,only:=false,vw:=some (fC st.acc b.id)}=qJ (Wn st.acc.mails b.id).length b.valid b.next st.acc.clock++okT [98] rwS:=by
  unfold oW;rw[if_neg (by decide),if_pos rfl]
 have e2:sW 0 true ({st with cnt:=st.cnt+1,only:=false,vw:=some (fC st.acc b.id)}:Sn)={st with cnt:=st.cnt+1,only:=false,vw:=some (fC st.acc b.id)}:=by
  unfold sW;rw[if_pos (.inr rfl)]
 rw[e1,e2]at this;exact this
def aGz(a:dL h F ps A pl ib cb fb vm vl I)(B:CanBox A k b)(hG:Ik.aI<=h.next.nat):
  ∃pc im h',NG [X ps 0] h=D (X pc 0) h'/\WE h F h' pc im ps {acc:=A,inn:=true,only:=false,cnt:=2,vw:=some (fC A b.id)}/\h.next.nat<=pc.nat:=by
 obtain⟨pc,im,S,e1,E,G,l,c,l1,L⟩:=aJP h;have a1:=a.nw c;have M:=a1.world E G l λj f=>⟨λe=>by have:=a.lt j f;rw[e]at this;omega,λe=>by have:=a.lt j f;rw[e]at this;omega⟩
 obtain⟨t,C⟩:∃t,Alls pc im ps (afP Ik.flA) {acc:=A,inn:=false,only:=false,cnt:=0,vw:=none} t {acc:=A,inn:=true,only:=false,cnt:=2,vw:=some (fC A b.id)}:=by
  rw[aIt];exact⟨_,.go (ayI rfl rfl ⟨by simp,by simp⟩) (.go (auS (st:={acc:=A,inn:=true,only:=false,cnt:=1,vw:=none}) rfl ⟨by simp,by simp⟩ B) (.nil _))⟩
 obtain⟨z,e2,v,x,o,m,d,i,r,p,s,w,Q,f2,y⟩:=aHo M (by have:=c.next;omega) aS5 C;refine⟨pc,im,z,?_,⟨v,x,o,m,d,i,r,p,s,w,Q,λj f=>?_,?_⟩,l1⟩
 ·rw[aEs];simp only[vvB,seval,aCG,ajZ,asB,asA,ajV,e1,e2];simp only[bV,bQ,vvB,seval,bT]
 ·have W:=c.next;rcases f2 j f with(q|q|rfl|rfl)|q
  ·exact .inl q
  ·exact q.elim
  ·exact .inr l1
  ·exact .inr L
  ·exact .inr (by omega)
 ·exact c.ch.trans y λj hj f=>by
   rcases f with q|q|rfl|rfl
   ·exact q
   ·exact q.elim
   ·omega
   ·omega
end
end Go.Proofs.Im
namespace Go.Im
abbrev aDv:Ln.Got:=⟨1,.cons 1 [122] .nil (.cons 1 [78,79,79,80] .nil .nil)⟩
def aIu:Fed Ik.fsN [aDv]:=by
 have h:=Fed.mk (l:=Ik.flN) (s:=Ik.fsN) (by decide) (by decide) Ik.aS1;exact h
end Go.Im
namespace Go.Proofs.Im
section
variable{bb:Nat}{h h' g h0:Hp}{P F I J Z:Pos->Prop}{ps pl ib ir pc im:Pos}{cb:Cap}{fb uid only u last bare part:Bool}{vm vl vv vw:V}{k f n:Nat}{st:Sn}{L:List V}{s:List Nat}{w:Wds}{ks:Int×Int×List (Int×Int×Int)}
def aKS(q:Rq bb h0 Z h pc im ps ir uid w s st L vw P F J pl ib cb fb vm vl vv I)(y:w.len=0):
  ∃h',auv [X pc 0,X ir 0] h=D (anV 0 [] false false false) h'/\DF bb h0 Z vw P h' pc im ps ir uid w s st:=by
 obtain⟨c,e,v,m⟩:=mkW h (O (N tA true) zAn);have d:=q.nw v;have i:¬OfB ir 5 L h.next:=λo=>by have:=(o.from q.bd _).2;omega
 have l:¬Ft F J pc im h.next:=λo=>by have:=q.wd.lt _ o;omega
 have r:=d.kr.ld d.l3;have p:=d.aHr c;rw[y]at p;obtain⟨b,a⟩:∃b,b=c.put h.next (some (O (N tA true) (anL 0 [] false false false))):=⟨_,rfl⟩
 have t:aS 5 (X h.next 0) (anV 0 [] false false false) c=D V.undef b:=by rw[a];exact m.stN rfl rfl
 have z:Kn b h.next (O (N tA true) (anL 0 [] false false false)):=by rw[a];exact m.put _
 have x:Ch (λj=>j=h.next) c b:=by rw[a];exact Ch.put _ _ rfl
 have B:=d.ah0 x i l q.chz.next;refine⟨b,?_,B.mk'⟩;rw[aJX];simp(disch:=omega)only[vvB,seval,aEe,aCB,aCA,aCz,aaQ,<-e,r,p,aQV,t];simp only[bV,bQ,vvB,seval,Ap,z.ldN (n:=5) rfl,bT]
def aEH(c:0<=st.cnt/\st.cnt<1000)(a:∀ks,st.vw=some ks->CanTell st.acc ks):
  oU pc im ps aDv st (sH st.acc st.vw++okT [122] []) true {st with cnt:=st.cnt+1,vw:=FD st.acc st.vw}:=by
 have hl:=(auA a).1;have:=oU.awv (pc:=pc) (im:=im) (ps:=ps) (st:=st) (g:=aDv) (x:=⟨1,[122],.nil⟩) (y:=⟨1,[78,79,79,80],.nil⟩) (kk:=0) (tx:= []) (last:=false) (bare:=false) (part:=false) (s2:= []) (st2:={st with cnt:=st.cnt+1}) rfl rfl rfl rfl rfl ⟨by decide,by decide⟩ ⟨by decide,by decide⟩ ⟨c.1,by omega⟩
  (Jj.of (n:=0) (f:=58) (u:=false) (by decide) rfl (.inl rfl) (λbb ir vw P h0 Z h L F J pl ib cb fb vm vl vv I q=>by
   obtain⟨b,e,r⟩:=aKS q rfl;exact⟨b,e,r⟩) rfl) (.inl rfl) ⟨by simp,by simp⟩ ⟨by simp,by simp⟩ (λ_ _ k e=>a k e) (by
   show([]++sH st.acc st.vw++okT [122] []).length<=_;simp[okT,lineS,dH];omega)
 exact this
end
end Go.Proofs.Im
namespace Go.Im
def Dy(f:Nat):List Nat:=match f with|0=> [36,97,110,115,119,101,114,101,100]|1=> [36,100,101,108,101,116,101,100]|2=> [36,100,114,97,102,116]|3=> [36,102,108,97,103,103,101,100]|_=> [36,115,101,101,110]
abbrev aOO:List Nat:= [70,76,65,71,83,46,83,73,76,69,78,84]
def aOI(s:Bool)(f k:Nat):Wds:=.cons 1 [48+k] .nil (.cons 1 (Ik.lT s::aOO) .nil (.cons 3 [] (.cons 1 (Ik.sQ f) .nil .nil) .nil))
def av6(s:Bool)(f k:Nat):Ln.Got:=⟨1,.cons 1 [120] .nil (.cons 1 auO .nil (aOI s f k))⟩
def WL:∀f:Nat,(Ik.sQ f).length<=9
 |0=>by decide
 |1=>by decide
 |2=>by decide
 |3=>by decide
 |4=>by decide
 |n+5=>by show(([]:List Nat)).length<=9;decide
def aLd{s:Bool}{f k:Nat}(a:1<=k/\k<10)(b:f<5):Fed (Ik.auQ s f k) [av6 s f k]:=
 Fed.mk (l:= [Ik.aHB s f k]) (by have:=WL f;unfold Ik.auQ;simp;omega) (by simp) (Ik.aS0 k a.1 a.2 s f b)
end Go.Im
namespace Go.Proofs.Im
section
variable{ps pc im:Pos}{C:Acc}{s:Bool}{f n k:Nat}{st:Sn}{s2:List Nat}{ks:Int×Int×List (Int×Int×Int)}{fr:List (Int×Int×Ml)}
def aK1:∀f:Nat,f<5->∀h:Hp,pU [H (Ik.sQ f)] h=D (.tuple (.cons (H (Dy f)) (.cons (K true) .nil))) h
 |0,_=>aTl
 |1,_=>aTk
 |2,_=>aTj
 |3,_=>aTi
 |4,_=>aTh
 |n+5,h=>absurd h (by omega)
def aKs(a:f<5):StoreW2 (Ik.lT s) (aOI s f k) false 0 [48+k] (Dy f) where
 set:=⟨⟨1,[48+k],.nil⟩,rfl,by show(1:Int)≠3;decide,rfl⟩
 len:=rfl
 zero:=λ_=>rfl
 mode:=⟨⟨1,Ik.lT s::aOO,.nil⟩,rfl,rfl,⟨by simp,by cases s<;>decide⟩,by cases s<;>rfl⟩
 flag:=⟨⟨3,[],.cons 1 (Ik.sQ f) .nil .nil⟩,⟨1,Ik.sQ f,.nil⟩,rfl,rfl,rfl,rfl,rfl,aK1 f a⟩
def az8(a:1<=k/\k<10):XB [48+k] (k:Int)=some [((k:Int),(k:Int))]:=by
 unfold XB;rw[if_pos (by omega)];by_cases h:k=1
 ·subst h;rfl
 ·rw[if_neg (by simp;omega),if_neg (by simp),if_pos ⟨by omega,by rw[Int.toNat_natCast]⟩]
def aHF(z:f<5)(B:1<=k/\k<10)(o:st.vw=some ks)(hl:ks.2.2.length=k)(E:st.only=false)(w:0<=st.cnt/\st.cnt<1000)
  (W:Stores2 (Ik.lT s) st.acc ks false false 0 (Dy f) ((fH st.acc.mails ks.1 0 ks.2.2).filter λx=>inM [((k:Int),(k:Int))] (uQ false x)) C fr [])
  (l:CanTell C (ks.1,ks.2.1,tells C ks.1 ks.2.2 fr)) (t:Quiet C (ks.1,ks.2.1,tells C ks.1 ks.2.2 fr)):
  oU pc im ps (av6 s f k) st (okT [120] []) true {st with cnt:=st.cnt+1,acc:=C,vw:=some (ks.1,ks.2.1,tells C ks.1 ks.2.2 fr)}:=by
 have a:zi false ks.2.2=(k:Int):=by unfold zi;rw[hl];rfl
 have c:XB [48+k] (zi false ks.2.2)=some [((k:Int),(k:Int))]:=by rw[a];exact az8 B
 have G:=aKs (s:=s) (k:=k) z;have d:Ik.lT s=43\/Ik.lT s=45:=by cases s;exact .inr rfl;exact .inl rfl
 have m:=t.upd;have v:an2 C (ks.1,ks.2.1,tells C ks.1 ks.2.2 fr):=λx M=>l.found x M;have b:Jj pc im ps ((av6 s f k).words.drop 2) (foldM auO) {st with cnt:=st.cnt+1} (anL 0 [] false false true) [] {st with cnt:=st.cnt+1,acc:=C,vw:=some (ks.1,ks.2.1,tells C ks.1 ks.2.2 fr)}:=by
  have i:({st with cnt:=st.cnt+1}:Sn).vw≠none:=by rw[show({st with cnt:=st.cnt+1}:Sn).vw=st.vw from rfl,o];simp
  exact Jj.of (n:=3) (f:=73) (u:=true) (by decide) rfl (.inr (.inr (.inr ⟨rfl,i⟩))) (λbb ir vw P h0 Z h L F J pl ib cb fb vm vl vv I q=>by
    obtain⟨p,e,r⟩:=azh d rfl q o E G c W;exact⟨p,e,r⟩) rfl
 have e1:oW 0 [120] [] [] false ({st with cnt:=st.cnt+1,acc:=C,vw:=some (ks.1,ks.2.1,tells C ks.1 ks.2.2 fr)}:Sn)=okT [120] []:=by
  unfold oW;rw[if_neg (by decide),if_neg (by simp)];show []++sH C (some (ks.1,ks.2.1,tells C ks.1 ks.2.2 fr))++okT [120] []=_;rw[m.1];rfl
 have j:=oU.awv (g:=av6 s f k) (x:=⟨1,[120],.nil⟩) (y:=⟨1,auO,.nil⟩) (kk:=0) (tx:= []) (last:=false) (bare:=false) (part:=true) (s2:= []) rfl rfl rfl rfl rfl ⟨by decide,by decide⟩ ⟨by decide,by decide⟩ ⟨w.1,by omega⟩ b (.inl rfl) ⟨by simp,by simp⟩ ⟨by simp,by simp⟩ (λ_ _ k e=>by cases e;exact l) (by rw[e1];simp[okT,lineS,dH]) (λ_ _ _ k e=>by cases e;exact v);rw[e1]at j;have e2:sW 0 false ({st with cnt:=st.cnt+1,acc:=C,vw:=some (ks.1,ks.2.1,tells C ks.1 ks.2.2 fr)}:Sn)={st with cnt:=st.cnt+1,acc:=C,vw:=some (ks.1,ks.2.1,tells C ks.1 ks.2.2 fr)}:=by
  unfold sW;rw[if_neg (by simp)];show({st with cnt:=st.cnt+1,acc:=C,vw:=FD C (some (ks.1,ks.2.1,tells C ks.1 ks.2.2 fr))}:Sn)=_;rw[m.2]
 rw[e2]at j;exact j
end
end Go.Proofs.Im
namespace Go.Im
def gS(j:Nat)(K:List (List Nat))(M:Int)(i:Nat):Ml:=if i=j then{mlF i with keys:=K,mod:=M} else mlF i
def aif(j:Nat)(K:List (List Nat))(M:Int)(i:Nat):(gS j K M i).id=(i:Int)+1:=by unfold gS;split<;>rfl
def OJ(j:Nat)(K:List (List Nat))(M:Int)(i:Nat):(gS j K M i).mem= [(1,(i:Int)+1)]:=by unfold gS;split<;>rfl
def TT(j:Nat)(K:List (List Nat))(M:Int)(i:Nat):(gS j K M i).keys=if i=j then K else []:=by unfold gS;split<;>rfl
def Y9(j:Nat)(K:List (List Nat))(M:Int)(i:Nat):(gS j K M i).mod=if i=j then M else(i:Int)+2:=by unfold gS;split<;>rfl
def aJ8(j:Nat)(K:List (List Nat))(M:Int):gS j K M j={mlF j with keys:=K,mod:=M}:=by unfold gS;rw[if_pos rfl]
def flA(j:Nat)(K:List (List Nat))(n:Nat)(B:List Bx)(E:List En):Acc:={jw (j+1) with clock:=(j:Int)+2+n,boxes:=B,mails:=(b! (j+1)).map (gS j K ((j:Int)+2+n)),ents:=E}
structure FlOk (j:Nat) (K:List (List Nat)) (n:Nat) (B:List Bx) (E:List En):Prop where
 hj:j<=8
 hn:n<=20
 few:K.length<=5
 good:∀s∈K,s.length<=100/\(∀c∈s,c<256)/\s≠ []
 zero:n=0->K= []
 box:∃b,B= [b]/\b.id=1
 ents:E.length<=3*j+3+2*n
 log:∀e∈E,e.mod<=(j:Int)+2+n
def aTN(j:Nat):flA j [] 0 [bxF (j+1)] (jw (j+1)).ents=jw (j+1):=by
 have a:(b! (j+1)).map (gS j [] ((j:Int)+2+((0:Nat):Int)))=(b! (j+1)).map mlF:=n! λi _=>by
  unfold gS;split
  ·rename_i h;subst h;unfold mlF;congr 1
  ·rfl
 unfold flA;rw[a];unfold jw;simp only[Acc.mk.injEq,true_and,and_true];omega
def aQI{j:Nat}(hj:j<=8):FlOk j [] 0 [bxF (j+1)] (jw (j+1)).ents where
 hj:=hj
 hn:=by omega
 few:=by simp
 good:=λs h=>by simp at h
 zero:=λ_=>rfl
 box:=⟨_,rfl,rfl⟩
 ents:=by show((b! (j+1)).flatMap qp).length<=_;rw[alE];omega
 log:=λe h=>by
  have:=(UJ (j+1)).mods e h;have a:(jw (j+1)).clock=((j+1:Nat):Int)+1:=rfl;omega
section
variable{j n t:Nat}{K:List (List Nat)}{B:List Bx}{E:List En}
def FlOk.small(h:FlOk j K n B E):(flA j K n B E).Small:=by
 have:=h.hj;have:=h.hn;obtain⟨b,rfl,_⟩:=h.box;refine⟨?_,by show 0< [b].length/\ [b].length<=1000;simp,by show((b! (j+1)).map _).length<=1000;simp;omega,?_,λy a=>?_⟩
 ·show 0<=(j:Int)+2+n/\(j:Int)+2+n<1000000;omega
 ·have:=h.ents;show E.length<=9000;omega
 ·obtain⟨i,_,rfl⟩:=c!.1 (show y∈(b! (j+1)).map (gS j K ((j:Int)+2+n)) from a);have:=h.few;refine⟨?_,by rw[OJ];simp⟩;rw[TT];split
  ·omega
  ·simp
def FlOk.logged(h:FlOk j K n B E):(flA j K n B E).Logged:=⟨λe a=>h.log e a⟩
def FlOk.inn(h:FlOk j K n B E)(M:Int)(i:Nat):(gS j K M i).In (flA j K n B E):=by
 obtain⟨b,rfl,hb⟩:=h.box;refine⟨by rw[OJ];exact BO ltI (by simp),λd x y _ c=>?_,λid a=>?_,by rw[OJ];simp⟩
 ·rw[OJ]at c;simp at c
 ·rw[OJ]at a;simp at a;subst a;exact⟨0,by show([b].findIdx? _)=_;simp[hb]⟩
def afZ(j:Nat)(K:List (List Nat))(n:Nat)(B:List Bx)(E:List En):Wn (flA j K n B E).mails 1=(b! (j+1)).map λi:Nat=>((i:Int)+1,gS j K ((j:Int)+2+n) i):=abr (g:=gS j K _) (OJ j K _) (j+1)
def vwS(j:Nat)(t:Int):Int×Int×List (Int×Int×Int):=(1,(fC (jw (j+1)) 1).2.1,(b! (j+1)).map λi:Nat=>((i:Int)+1,(i:Int)+1,if i=j then t else(i:Int)+2))
def aIF(j:Nat):fC (jw (j+1)) 1=vwS j ((j:Int)+2):=by
 have:=aKZ (j+1);have e:(fC (jw (j+1)) 1)=(1,(fC (jw (j+1)) 1).2.1,(fC (jw (j+1)) 1).2.2):=rfl;rw[e,this];unfold vwS;congr 2;exact n! λi _=>by split;rename_i h;subst h;rfl;rfl
def awc{i:Nat}(hi:i<j+1):(Wn (flA j K n B E).mails 1).find? (λy=>decide (y.1=(i:Int)+1)&&decide (y.2.id=(i:Int)+1))=some ((i:Int)+1,gS j K ((j:Int)+2+n) i):=by
 rw[afZ];have b:=(find_range (f:=λi:Nat=>((i:Int)+1,gS j K ((j:Int)+2+n) i)) (key:=λy:Int×Ml=>y.1) (λ_=>rfl) hi).2;rw[<-b];refine List.I9 λy c=>?_;obtain⟨a,_,rfl⟩:=c!.1 c;show(decide ((a:Int)+1=(i:Int)+1)&&decide ((gS j K ((j:Int)+2+n) a).id=(i:Int)+1))=decide ((a:Int)+1=(i:Int)+1);rw[aif];cases decide ((a:Int)+1=(i:Int)+1)<;>rfl
def ank(t:Int):fH (flA j K n B E).mails (vwS j t).1 0 (vwS j t).2.2=(b! (j+1)).map λi:Nat=>((i:Int)+1,(i:Int)+1,gS j K ((j:Int)+2+n) i):=
 aHZ (g:=gS j K _) (aif j K _) (OJ j K _) λi=>if i=j then t else(i:Int)+2
def aAy(t:Int):(fH (flA j K n B E).mails (vwS j t).1 0 (vwS j t).2.2).filter (λx=>inM [(((j+1:Nat):Int),((j+1:Nat):Int))] (uQ false x))= [((j:Int)+1,(j:Int)+1,gS j K ((j:Int)+2+n) j)]:=by
 rw[ank,H!,q!,List.filter_append,J!,List.map_nil];have a:((b! j).map λi:Nat=>(((i:Int)+1,(i:Int)+1,gS j K ((j:Int)+2+n) i):Int×Int×Ml)).filter (λx=>inM [(((j+1:Nat):Int),((j+1:Nat):Int))] (uQ false x))= []:=by
  rw[List.filter_eq_nil_iff];intro x c;obtain⟨i,hi,rfl⟩:=c!.1 c;have:=i!.1 hi;unfold inM uQ;simp;omega
 have b:inM [(((j+1:Nat):Int),((j+1:Nat):Int))] (uQ false (((j:Int)+1,(j:Int)+1,gS j K ((j:Int)+2+n) j):Int×Int×Ml))=true:=by
  unfold inM uQ;simp
 rw[a,List.filter_cons,if_pos b];rfl
def az0(g:Nat->Ml)(a:∀i,(g i).id=(i:Int)+1)(j:Nat)(o:Int):∀n:Nat,aua ((j:Int)+1,(j:Int)+1,o) ((b! n).map λi:Nat=>((i:Int)+1,g i))=if j<n then(g j).mod else o
 |0=>rfl
 |n+1=>by
  have c:=az0 g a j o n;unfold aua at c⊢;rw[H!,q!,List.foldl_append,c];show(if(n:Int)+1=(j:Int)+1/\(g n).id=(j:Int)+1 then(g n).mod else _)=_;rw[a];by_cases h:n=j
  ·subst h;rw[if_pos ⟨rfl,rfl⟩,if_pos (by omega)]
  ·rw[if_neg λe=>h (by omega)];by_cases b:j<n
   ·rw[if_pos b,if_pos (by omega)]
   ·rw[if_neg b,if_neg (by omega)]
def aKt(t u:Int):((vwS j t).2.2).set j ((j:Int)+1,(j:Int)+1,u)=(vwS j u).2.2:=by
 apply B!;intro a;unfold vwS;by_cases b:j=a
 ·subst b;rw[t! (by simp),d!,h! (by omega)];show _=some ((j:Int)+1,(j:Int)+1,if j=j then u else(j:Int)+2);rw[if_pos rfl]
 ·rw[z! b,d!,d!];by_cases h:a<j+1
  ·rw[h! h];show some ((a:Int)+1,(a:Int)+1,if a=j then t else(a:Int)+2)=some ((a:Int)+1,(a:Int)+1,if a=j then u else(a:Int)+2);rw[if_neg λe=>b e.symm,if_neg λe=>b e.symm]
  ·rw[x! (by simp;omega)];rfl
def az3(t:Int):tells (flA j K n B E) (vwS j t).1 (vwS j t).2.2 [((j:Int)+1,(j:Int)+1,gS j K ((j:Int)+2+n) j)]=(vwS j ((j:Int)+2+n)).2.2:=by
 show zh (flA j K n B E) 1 (vwS j t).2.2 ((j:Int)+1 - 1).toNat=_;rw[show((j:Int)+1 - 1).toNat=j from by omega];unfold zh;have hl:(vwS j t).2.2[j]?=some ((j:Int)+1,(j:Int)+1,t):=by
  unfold vwS;rw[d!,h! (by omega)];show some ((j:Int)+1,(j:Int)+1,if j=j then t else(j:Int)+2)=_;rw[if_pos rfl]
 rw[hl];show(vwS j t).2.2.set j ((j:Int)+1,(j:Int)+1,aua ((j:Int)+1,(j:Int)+1,t) (Wn (flA j K n B E).mails 1))=_;rw[afZ,az0 _ (aif j K _),if_pos (by omega),Y9,if_pos rfl,aKt]
def az7(t:Int):an2 (flA j K n B E) (vwS j t):=λx a=>by
 obtain⟨i,hi,rfl⟩:=c!.1 (show x∈(b! (j+1)).map λi:Nat=>(((i:Int)+1,(i:Int)+1,if i=j then t else(i:Int)+2):Int×Int×Int) from a);show((Wn (flA j K n B E).mails 1).find? λy=>decide (y.1=(i:Int)+1)&&decide (y.2.id=(i:Int)+1)).isSome=true;rw[awc (i!.1 hi)];rfl
def auT:(Wn (flA j K n B E).mails 1).Pairwise λx y=>x.1<y.1:=by
 rw[afZ,List.pairwise_map];exact List.pairwise_lt_range.imp λ{a b} h=>by show((a:Int)+1)<((b:Int)+1);omega
def aS4{y:Int×Ml}(a:y∈Wn (flA j K n B E).mails 1)(t:Int):y.1<=(vwS j t).2.1:=by
 rw[afZ]at a;obtain⟨i,hi,rfl⟩:=c!.1 a;exact(DAcc.foldl_max (Wn (jw (j+1)).mails 1) 0).2 ((i:Int)+1,mlF i) (by
  show _∈Wn ((b! (j+1)).map mlF) 1;rw[abr (g:=mlF) (λ_=>rfl)];exact c!.2 ⟨i,hi,rfl⟩)
def aAg:Quiet (flA j K n B E) (vwS j ((j:Int)+2+n)):=λx b y a=>by
 obtain⟨i,hi,rfl⟩:=c!.1 (show x∈(b! (j+1)).map λi:Nat=>(((i:Int)+1,(i:Int)+1,if i=j then(j:Int)+2+n else(i:Int)+2):Int×Int×Int) from b);have a:(Wn (flA j K n B E).mails 1).find? (λy=>decide (y.1=(i:Int)+1)&&decide (y.2.id=(i:Int)+1))=some y:=a;rw[awc (i!.1 hi)]at a;cases a;show(gS j K ((j:Int)+2+n) i).mod<=if i=j then(j:Int)+2+n else(i:Int)+2;rw[Y9];split<;>omega
def FlOk.aqB(h:FlOk j K n B E)(t:Int):CanTell (flA j K n B E) (vwS j t):=by
 have:=h.hj;have:=h.hn;refine⟨h.small,by show(vwS j _).2.2.length<50;unfold vwS;simp;omega,auT,by show(Wn (flA j K n B E).mails 1).length<50;rw[afZ];simp;omega,λx b=>az7 t x b,λx b=>?_,λy a=>?_,λy a=>?_,λy a=>aS4 a _⟩
 ·obtain⟨i,hi,rfl⟩:=c!.1 (show x∈(b! (j+1)).map λi:Nat=>(((i:Int)+1,(i:Int)+1,if i=j then t else(i:Int)+2):Int×Int×Int) from b);have:=i!.1 hi;show 0<=(i:Int)+1/\(i:Int)+1<100;omega
 ·have a:y∈Wn (flA j K n B E).mails 1:=a;rw[afZ]at a;obtain⟨i,hi,rfl⟩:=c!.1 a;have:=i!.1 hi;show 0<=(gS j K ((j:Int)+2+n) i).mod/\(gS j K ((j:Int)+2+n) i).mod<100;rw[Y9];split<;>omega
 ·have a:y∈Wn (flA j K n B E).mails 1:=a;rw[afZ]at a;obtain⟨i,hi,rfl⟩:=c!.1 a;have:=h.few;show(gS j K ((j:Int)+2+n) i).keys.length<=20/\∀s∈(gS j K ((j:Int)+2+n) i).keys,_;rw[TT];split
  ·exact⟨by omega,h.good⟩
  ·exact⟨by simp,λs h=>by simp at h⟩
end
def keysOf(b:List Bool):List (List Nat):=(b! 5).filterMap λf=>if b.getD f false=true then some (Dy f) else none
def aib(b:List Bool):List (List Nat):=(b! 5).filterMap λf=>if b.getD f false=true then some (Ik.sQ f) else none
def bits:Nat->List (List Bool)
 |0=> [[]]
 |n+1=>(bits n).flatMap λl=> [true::l,false::l]
def alq:∀b:List Bool,b∈bits b.length
 | []=>by simp[bits]
 |x::b=>by
  show x::b∈(bits b.length).flatMap _;exact List.mem_flatMap.2 ⟨b,alq b,by cases x<;>simp⟩
def auc(b:List Bool):Bool:=((b! 5).all λf=> [true,false].all λs=>decide (xH (kwF (Ik.lT s) (keysOf b) [Dy f])=keysOf (b.set f s))&&(kwF (Ik.lT s) (keysOf b) [Dy f]).all λx=>EC x)&&decide (fO (keysOf b)= [40]++dH [32] (aib b)++ [41])&&decide ((keysOf b).length<=5)&&(keysOf b).all (λs=>decide (s.length<=100)&&s.all (λc=>decide (c<256))&&decide (s≠ []))&&(aib b).all (λs=>decide (s.length<=9)&&decide (s≠ []))&&decide ((aib b).length<=5)&&decide (keysOf b= []↔aib b= [])
def aHC:(bits 5).all auc=true:=kR
section
variable{sg j n t f:Nat}{K:List (List Nat)}{key:List Nat}{B:List Bx}{E:List En}{b:List Bool}{s:Bool}
def auR(hb:b.length=5):auc b=true:=p!.1 aHC b (by rw[<-hb];exact alq b)
def aKY(hb:b.length=5)(a:f<5):xH (kwF (Ik.lT s) (keysOf b) [Dy f])=keysOf (b.set f s)/\∀x∈kwF (Ik.lT s) (keysOf b) [Dy f],EC x=true:=by
 have h:=auR hb;unfold auc at h;simp only[Bool.and_eq_true,p!,decide_eq_true_eq]at h;exact h.1.1.1.1.1.1 f (i!.2 a) s (by cases s<;>simp)
def aE3(hb:b.length=5):(keysOf b).length<=5/\∀s∈keysOf b,s.length<=100/\(∀c∈s,c<256)/\s≠ []:=by
 have h:=auR hb;unfold auc at h;simp only[Bool.and_eq_true,p!,decide_eq_true_eq]at h;exact⟨h.1.1.1.1.2,λs a=>⟨(h.1.1.1.2 s a).1.1,(h.1.1.1.2 s a).1.2,(h.1.1.1.2 s a).2⟩⟩
def aQG:(kwF sg K [key]).length<=K.length+1:=by
 unfold kwF;split
 ·simp
 ·exact v! (List.length_filter_le _ _) (by omega)
def aLb(h:FlOk j K n B E)(hn:n<20){K':List (List Nat)}(r:K'.length<=5)(u:∀s∈K',s.length<=100/\(∀c∈s,c<256)/\s≠ []):
  ∃m o,aa4 (flA j K n B E) j (gS j K ((j:Int)+2+n) j) K'=flA j K' (n+1) m o/\FlOk j K' (n+1) m o:=by
 obtain⟨bx,rfl,g⟩:=h.box;have p:(flA j K n [bx] E).clock+1=(j:Int)+2+((n+1:Nat):Int):=by show(j:Int)+2+n+1=_;omega
 have l:(flA j K n [bx] E).mails.set j {gS j K ((j:Int)+2+n) j with keys:=K',mod:=(j:Int)+2+((n+1:Nat):Int)}=(b! (j+1)).map (gS j K' ((j:Int)+2+((n+1:Nat):Int))):=by
  show((b! (j+1)).map (gS j K ((j:Int)+2+n))).set j _=_;apply B!;intro a;by_cases k:j=a
  ·subst k;rw[t! (by simp),d!,h! (by omega)];show some _=some (gS j K' _ j);rw[aJ8,aJ8]
  ·rw[z! k,d!,d!];by_cases v:a<j+1
   ·rw[h! v];show some (gS j K _ a)=some (gS j K' _ a);unfold gS;rw[if_neg λe=>k e.symm,if_neg λe=>k e.symm]
   ·rw[x! (by simp;omega)];rfl
 have d:iO (gS j K ((j:Int)+2+n) j) K'= []\/iO (gS j K ((j:Int)+2+n) j) K'= [1]:=by
  unfold iO;split
  ·exact .inl rfl
  ·rw[OJ];exact .inr rfl
 refine⟨jX ((j:Int)+2+((n+1:Nat):Int)) (iO (gS j K ((j:Int)+2+n) j) K') [bx],E++((iO (gS j K ((j:Int)+2+n) j) K').map (lq ((j:Int)+2+((n+1:Nat):Int)))++ [(⟨(j:Int)+2+((n+1:Nat):Int),2,(j:Int)+1,2⟩:En)]),?_,?_⟩
 ·unfold aa4;rw[p,l,aif];rfl
 ·have w:=h.ents;refine⟨h.hj,by omega,r,u,λe=>by omega,?_,?_,λe l=>?_⟩
  ·rcases d with q|q
   ·rw[q];exact⟨bx,rfl,g⟩
   ·rw[q];refine⟨{bx with mod:=(j:Int)+2+((n+1:Nat):Int)},?_,g⟩;show updB 1 _ [bx]=_;unfold updB;rw[if_pos g]
  ·rcases d with q|q
   ·rw[q];simp;omega
   ·rw[q];simp;omega
  ·rcases a!.1 l with q|q
   ·have:=h.log e q;omega
   ·rcases a!.1 q with q|q
    ·obtain⟨i,_,rfl⟩:=c!.1 q;exact N! _
    ·simp at q;subst q;exact N! _
def aIp(h:FlOk j (keysOf b) n B E)(hb:b.length=5)(hn:n<20)(G:f<5)(t:Int):
  ∃c g k,FlOk j (keysOf (b.set f s)) c g k/\c<=n+1/\
   Stores2 (Ik.lT s) (flA j (keysOf b) n B E) (vwS j t) false false 0 (Dy f) ((fH (flA j (keysOf b) n B E).mails (vwS j t).1 0 (vwS j t).2.2).filter λx=>inM [(((j+1:Nat):Int),((j+1:Nat):Int))] (uQ false x))
    (flA j (keysOf (b.set f s)) c g k) [((j:Int)+1,(j:Int)+1,gS j (keysOf (b.set f s)) ((j:Int)+2+c) j)] []:=by
 obtain⟨z,J⟩:=aKY (s:=s) hb G;have C:=aE3 (b:=b.set f s) (by simpa using hb);have I:=h.hj;have hG:KGood2 (Ik.lT s) (flA j (keysOf b) n B E) [Dy f] ((j:Int)+1,(j:Int)+1,gS j (keysOf b) ((j:Int)+2+n) j) j (gS j (keysOf b) ((j:Int)+2+n) j):=by
  have d:(gS j (keysOf b) ((j:Int)+2+n) j).keys=keysOf b:=by rw[TT,if_pos rfl]
  have u:=find_range (f:=gS j (keysOf b) ((j:Int)+2+n)) (key:=λy:Ml=>y.id) (aif j _ _) (show j<j+1 by omega);refine⟨h.small,h.logged,?_,?_,rfl,h.inn _ _,by rw[show((j:Int)+1,(j:Int)+1,gS j (keysOf b) ((j:Int)+2+n) j).2.2.keys=keysOf b from d];exact J,?_,?_,?_⟩
  ·show((b! (j+1)).map _)[j]?=_;rw[d!,h! (by omega)];rfl
  ·rw[aif];exact u.1
  ·show(kwF (Ik.lT s) (gS j (keysOf b) ((j:Int)+2+n) j).keys [Dy f]).length<=12;rw[d];have:=aQG (sg:=Ik.lT s) (K:=keysOf b) (key:=Dy f);have:=h.few;omega
  ·have:=h.ents;show E.length<=8000;omega
  ·show(j:Int)+2+n<900000;omega
 have d:(gS j (keysOf b) ((j:Int)+2+n) j).keys=keysOf b:=by rw[TT,if_pos rfl]
 have fin:∀{c:Nat} {g:List Bx} {k:List En},FlOk j (keysOf (b.set f s)) c g k->Wy (flA j (keysOf b) n B E) j (gS j (keysOf b) ((j:Int)+2+n) j) (kwF (Ik.lT s) (keysOf b) [Dy f])=flA j (keysOf (b.set f s)) c g k->
   Stores2 (Ik.lT s) (flA j (keysOf b) n B E) (vwS j t) false false 0 (Dy f) ((fH (flA j (keysOf b) n B E).mails (vwS j t).1 0 (vwS j t).2.2).filter λx=>inM [(((j+1:Nat):Int),((j+1:Nat):Int))] (uQ false x))
    (flA j (keysOf (b.set f s)) c g k) [((j:Int)+1,(j:Int)+1,gS j (keysOf (b.set f s)) ((j:Int)+2+c) j)] []:=λ{c g k} ok e=>by
  have w:pW (fH (flA j (keysOf (b.set f s)) c g k).mails (vwS j t).1 0 (vwS j t).2.2) [((j:Int)+1,(j:Int)+1,gS j (keysOf b) ((j:Int)+2+n) j)]= [((j:Int)+1,(j:Int)+1,gS j (keysOf (b.set f s)) ((j:Int)+2+c) j)]:=by
   rw[ank];unfold pW;have q:=(find_range (f:=λi:Nat=>((i:Int)+1,(i:Int)+1,gS j (keysOf (b.set f s)) ((j:Int)+2+c) i)) (key:=λy:Int×Int×Ml=>y.1) (λ_=>rfl) (show j<j+1 by omega)).2;simp only[List.filterMap_cons,List.filterMap_nil];rw[q]
  have o:(vwS j t).2.2.length=j+1:=by unfold vwS;simp
  have l:([((j:Int)+1,(j:Int)+1,gS j (keysOf b) ((j:Int)+2+n) j)]:List (Int×Int×Ml)).filter (λa=>!wo false 0 a)= [((j:Int)+1,(j:Int)+1,gS j (keysOf b) ((j:Int)+2+n) j)]:=rfl;have v:([((j:Int)+1,(j:Int)+1,gS j (keysOf b) ((j:Int)+2+n) j)]:List (Int×Int×Ml)).filter (λa=>wo false 0 a)= []:=rfl;rw[aAy];refine⟨h.small,by rw[o];omega,by simp,?_,λx m=>?_,ok.small,auT,?_,λx m=>?_,?_,λx m=>?_,?_⟩
  ·rw[l];refine .cons ⟨j,_,hG,?_⟩ (.nil _);show _=Wy _ _ _ (kwF (Ik.lT s) (gS j (keysOf b) ((j:Int)+2+n) j).keys [Dy f]);rw[d,e]
  ·simp at m;subst m;rw[d];have:=h.few;omega
  ·show(Wn (flA j _ c g k).mails 1).length<50;rw[afZ];simp;omega
  ·rw[l]at m;simp at m;subst m;rw[ank];exact⟨_,(find_range (f:=λi:Nat=>((i:Int)+1,(i:Int)+1,gS j (keysOf (b.set f s)) ((j:Int)+2+c) i)) (key:=λy:Int×Int×Ml=>y.1) (λ_=>rfl) (show j<j+1 by omega)).2⟩
  ·rw[l,w]
  ·simp at m;subst m;rw[o];show 1<=(j:Int)+1/\(j:Int)+1<=((j+1:Nat):Int);omega
  ·exact⟨rfl,rfl⟩
 by_cases r:xH (kwF (Ik.lT s) (keysOf b) [Dy f])=(gS j (keysOf b) ((j:Int)+2+n) j).keys
 ·have p:keysOf (b.set f s)=keysOf b:=by rw[<-z,r,d]
  refine⟨n,B,E,by rw[p];exact h,by omega,fin (by rw[p];exact h) ?_⟩;unfold Wy;rw[if_pos r,p]
 ·obtain⟨g,k,e,ok⟩:=aLb h hn C.1 C.2;refine⟨n+1,g,k,ok,by omega,fin ok ?_⟩;unfold Wy;rw[if_neg r,z,e]
end
abbrev oh:List Nat:= [70,76,65,71,83]
abbrev Ag(_:Unit):List V:= [H oh,K false,.func (.func 236) .nil .nil]
abbrev aqi:V:=.agg (.cons (H oh) (.cons (K false) (.cons (.func (.func 236) .nil .nil) .nil)))
def rU(n:Nat)(t:List Nat):List Nat:= [42,32]++dZ n++ [32,70,69,84,67,72,32,40]++t++ [41]
end Go.Im
namespace Go.Proofs.Im
section
variable{h h' g:Hp}{P:Pos->Prop}{v vk vs:V}{p:Pos}{x:Int×Int×Ml}{n:Nat}{t:List Nat}
def aHk(g:Hp):∃g',FB [aqi] g=D (K false) g'/\Nw g g':=by
 have k:=Kn.new g (O (N 213 true) (Ag ()));have B:eX 213 aqi g=D (X g.next 0) (g.new (O (N 213 true) (Ag ()))):=rfl;have e1:=k.ld (q:=1) (x:=K false) rfl;rw[arG];simp only[vvB,seval,ak3,aen,aem,B,e1];exact⟨g.new (O (N 213 true) (Ag ())),by simp only[bV,bQ,vvB,seval,bT],Nw.new _ _⟩
def aOD{w:Wr}{s:List Nat}(kp:Kn g p (O w [H s])):∃g',P8 [aqi,X p 0] g=D (K (decide (oh=s))) g'/\Nw g g':=by
 have k:=Kn.new g (O (N 213 true) (Ag ()));have B:eX 213 aqi g=D (X g.next 0) (g.new (O (N 213 true) (Ag ()))):=rfl;have e1:=k.ld (q:=0) (x:=H oh) rfl;have e2:=(kp.add (O (N 213 true) (Ag ()))).ld (q:=0) (x:=H s) rfl;rw[ayr];simp only[vvB,seval,as4,ake,ajT,B,e1,e2,lW];exact⟨g.new (O (N 213 true) (Ag ())),by simp only[bV,bQ,vvB,seval,bT],Nw.new _ _⟩
def aDT(x:V)(g:Hp):dD oN (.func (.func 150) .nil .nil) [x] g=FB [x] g:=(rfl)
def aIH(p:Pos)(x:V)(g:Hp):dD oN (.func (.func 235) .nil (.cons (X p 0) .nil)) [x] g=P8 [x,X p 0] g:=(rfl)
def aDQ(x:V)(g:Hp):dD ao8 (.func (.func 236) .nil .nil) [x] g=Fv [x] g:=(rfl)
def aHO(r:Rws P (flat Ag) 3 h v [()]):∃h',iY [v,.func (.func 150) .nil .nil] h=D (K false) h'/\Nw h h':=
 MC r (aJ _) (λ_=>false) (by simp) λa cs g _ _ e _=>by
  obtain rfl:cs=Ag a:=e;rw[aDT];exact aHk g
def aQH(r:Rws P (flat Ag) 3 h v [()]):∃h',NJ [v,H oh] h=D (K true) h'/\Nw h h':=by
 obtain⟨o,b,c,s⟩:=mkW h (O (N 9 true) [H oh]);have d:eX 9 (H oh) h=D (X h.next 0) o:=by rw[b];rfl
 obtain⟨q,e2,k⟩:=MC (f:=.func (.func 235) .nil (.cons (X h.next 0) .nil)) (r.nw (aJ _) c) (aJ _) (λ_=>true) (by simp) λa cs g _ l e _=>by
  obtain rfl:cs=Ag a:=e;rw[aIH];obtain⟨g',m,j⟩:=aOD (s.nw l);exact⟨g',m,j⟩
 have i:∀g,eP (.func 235) [] [X h.next 0] g=D (.func (.func 235) .nil (.cons (X h.next 0) .nil)) g:=λg=>rfl;rw[azU];simp only[vvB,seval,axS,ao4,ao3,d,i,e2];exact⟨q,by simp only[bV,bQ,vvB,seval,bT];rfl,c.trans k⟩
def aGr(r:Rws P (flat dN) 1 h vk x.2.2.keys)(hn:x.2.2.keys.length<=20)(hl:∀s∈x.2.2.keys,s.length<=100/\(∀c∈s,c<256)/\s≠ []):
  ∃h',Fv [.agg (V.ofList (msC x vk vs))] h=D (H (fO x.2.2.keys)) h'/\Nw h h':=by
 obtain⟨f,a,b,j⟩:=mkW h (O (N 200 true) (msC x vk vs));have d:eX 200 (.agg (V.ofList (msC x vk vs))) h=D (X h.next 0) f:=by rw[a];rfl
 have e1:=j.ld (q:=6) (x:=vk) rfl;obtain⟨i,e2,e⟩:=atn (r.nw (aJ _) b) hn hl;rw[arD];simp(disch:=omega)only[vvB,seval,ak1,aee,aed,d,e1,e2];exact⟨i,by simp only[bV,bQ,vvB,seval,bT],b.trans e⟩
def aEv(z:x.1=(n:Int))(hn:n<100)(r:Rws P (flat dN) 1 h v [t])(y:t.length<=10000/\∀c∈t,c<256):
  ∃h',BH [.agg (V.ofList (msC x vk vs)),v] h=D (H (rU n t)) h'/\Nw h h':=by
 obtain⟨u,d,e,B⟩:=mkW h (O (N 200 true) (msC x vk vs));have f:eX 200 (.agg (V.ofList (msC x vk vs))) h=D (X h.next 0) u:=by rw[d];rfl
 have e1:=B.ld (q:=0) (x:=iV x.1) rfl;rw[z]at e1;have hd:=kQ (n:=n) hn;have s:∀g,jy [Y U (n:Int)] g=D (H (dZ n)) g:=λg=>Gw hn g;obtain⟨o,a,C,sl,kk,p⟩:=r.nw (aJ _) e;obtain rfl:=a.flat;rw[anx]at sl;obtain⟨r1,w,e2,rfl,m⟩:=UF (sep:= [32]) sl kk (l! _) (by simp) (by simp) (by simp[fP];omega) (λt' b=>by simp at b;subst b;exact y.2) (by simp) (.inl (by simp));have hj:dH [32] [t]=t:=by simp[dH]
 rw[hj]at e2;have i:∀g,aH .add .none (H [42,32]) (H (dZ n)) g=D (H ([42,32]++dZ n)) g:=λg=>dw (by simp;omega);have j:∀g,aH .add .none (H ([42,32]++dZ n)) (H [32,70,69,84,67,72,32,40]) g=D (H ([42,32]++dZ n++ [32,70,69,84,67,72,32,40])) g:=λg=>dw (by simp;omega);have k:∀g,aH .add .none (H ([42,32]++dZ n++ [32,70,69,84,67,72,32,40])) (H t) g=D (H ([42,32]++dZ n++ [32,70,69,84,67,72,32,40]++t)) g:=λg=>dw (by simp;omega);have l:∀g,aH .add .none (H ([42,32]++dZ n++ [32,70,69,84,67,72,32,40]++t)) (H [41]) g=D (H (rU n t)) g:=λg=>dw (by simp;omega);rw[apK];simp(disch:=omega)only[vvB,seval,ahv,aad,aac,f,e1,s,e2,i,j,k,l];exact⟨w,by simp only[bV,bQ,vvB,seval,bT],e.then m λ_ _ q=>q⟩
end
end Go.Proofs.Im
