/- Lemmas. No conditions. -/
import Derived.Test.YtpgppmioigacoaaGreatDoorSAU
set_option linter.all false
set_option maxRecDepth 100000
open Go.Vm.Pos renaming of→a!
open List renaming eraseIdx_eq_take_drop_succ→b!,mem_append→c!,getElem?_eq_some_iff→d!,getElem?_eq_getElem→e!,drop_eq_getElem_cons→h!,append_nil→k!,mem_of_getElem?→l!,map_cons→n!,length_append→o!,append_assoc→p!,length_take→q!,length_eraseIdx_of_lt→t!,drop_eq_nil_of_le→u!,mem_map_of_mem→x!,length_cons→y!,filter_cons→z!,map_append→A!,map_take→B!,map_drop→C!,mem_map→D!,map_nil→E!
open Go.Proofs.Tryz renaming prog→g!
open Go.Vm.Out renaming ret→i!,nor→r!
open Nat renaming le_refl→j!,add_zero→v!
open Go.Vm.V renaming int→Y,ptr→X,bool→K,str→H
open Go.IntKind renaming i64→U
open Go.Vm.Ob renaming cells→O
open Go.Vm.Wr renaming rw→N
open Go.Vm.R renaming ok→D
noncomputable section
open Go Go.Vm Go.Ln Go.Proofs Go.Im
namespace Go.Im
def akn{n:Nat}(hn:n<100):(Fp n [oG]).length<=14/\(∀c∈Fp n [oG],c<256)/\Fp n [oG]≠ []:=by
 have d:=mJ hn;refine⟨by simp[Fp,dN];omega,λc b=>?_,by simp[Fp]⟩;simp only[Fp,c!]at b;rcases b with(((b|b)|b)|b)|b
 ·revert c;decide
 ·exact d.2.1 c b
 ·revert c;decide
 ·revert c;decide
 ·revert c;decide
def akJ(now:List (Int×Ml)):∀(l:List Mg) (i:Nat),i+l.length<100->(jI now i l).length<=14*l.length/\∀c∈jI now i l,c<256
 | [],i,_=>⟨by simp[jI],λc b=>by simp[jI]at b⟩
 |x::l,i,h=>by
  simp only[y!]at h;unfold jI;split
  ·have:=akJ now l (i+1) (by omega);exact⟨by simp;omega,this.2⟩
  ·have d:=akJ now l i (by omega);have e:=akn (n:=i+1) (by omega);refine⟨by simp;omega,λc b=>?_⟩;rcases c!.1 b with q|q
   ·exact e.2.1 c q
   ·exact d.2 c q
def amr(now:List (Int×Ml))(x:Mg)(l:List Mg):zN now (x::l)=if(oZ now x).isSome=true then x::zN now l else zN now l:=by
 unfold zN;rw[z!]
end Go.Im
namespace Go.Proofs.Im
section
variable{h g:Hp}{J:Pos->Prop}{pv im i:Pos}{only u:Bool}{v vw:V}{box had:Int}{st:Sn}{L a:List V}{s:List Nat}{w:Wds}{k f n:Nat}{now:List (Int×Ml)}{m:List Mg}
def aBS{w:Wr}(l:Kn h i (O w L))(j:L[1]?=some .aQ):Kr [X i 0] h=D (H []) h:=by
 have b:=l.ld j;have c:CW .aQ h=D .cZ h:=rfl;have d:aZ 2 .aQ h=D (Y U 0) h:=rfl;have e:Ij 5 .cZ (Y U 0) h=D (H []) h:=rfl;rw[asD];simp(disch:=omega)only[vvB,seval,axd,awU,ali,b,c,d,e,sN (v:=.aQ) rfl b];simp only[bU,bT,vvB,seval,bW]
def aHq(vk:VwK h J pv box had m vw)(hk:k<m.length)(W:m.length<=1000):
  ∃o c vw',kX [vw,Y U (k:Int),Y U ((k:Int)+1)] h=D vw' o/\Kn o pv (O (N 246 true) [iV box,vw,iV had])/\aV 1 (X pv 1) vw' o=D V.undef c/\VwK c J pv box had (m.eraseIdx k) vw'/\Ch J h c:=by
 rcases vk.row with⟨rfl,-⟩|⟨im,f,rest,rfl,S⟩
 ·simp at hk
 have Q:∀d∈m.map mgC,d.length=3:=λd hd=>by obtain⟨x,_,rfl⟩:=D!.1 hd;rfl
 have C:(m.map mgC).length=m.length:=List.length_map _;obtain⟨o,t,e1,M,z⟩:=alK (i:=k) S Q (by omega) (by omega);rw[C]at e1;have G:(m.map mgC).eraseIdx k=(m.eraseIdx k).map mgC:=by
  rw[b!,b!,A!,B!,C!]
 rw[G]at M;have E:(m.eraseIdx k).length=m.length - 1:=t! hk;have r:im≠pv:=λe=>vk.nv (by rw[<-e];rfl);have v1:=vk.vw.ch z λe=>r e.symm;obtain⟨c,p⟩:∃c,c=o.put pv (some (O (N 246 true) [iV box,.slice im 0 (m.length - 1) (.un 3),iV had])):=⟨_,rfl⟩
 have P:aV 1 (X pv 1) (.slice im 0 (m.length - 1) (.un 3)) o=D V.undef c:=by rw[p];exact v1.st (q:=1) ⟨rfl,rfl⟩ (by simp)
 have B:Ch (λj=>j=pv) o c:=by rw[p];exact Ch.put _ _ rfl
 have I:J im:=vk.foot.2.1 im rfl;have y:Ch J h c:=(z.mono λj _ e=>by rw[e];exact I).trans (B.mono λj _ e=>by rw[e];exact vk.foot.1) λ_ _ q=>q;refine⟨o,c,.slice im 0 (m.length - 1) (.un 3),e1,v1,P,?_,y⟩;have b:∀x∈m.eraseIdx k,x∈m:=λx l=>List.mem_of_mem_eraseIdx l
 refine⟨by rw[p];exact v1.put _,.inr ⟨im,f,t,by rw[E],M.ch B r⟩,λx l=>((vk.told x (b x l)).ch z λe=>(vk.sep x (b x l)).2 (by rw[e];rfl)).ch B λe=>(vk.sep x (b x l)).1 e,?_,λx l=>⟨(vk.sep x (b x l)).1,λe=>(vk.sep x (b x l)).2 (by cases e;rfl)⟩,λe=>by cases e;exact r rfl,⟨vk.foot.1,λj e=>by cases e;exact I,λx l=>vk.foot.2.2 x (b x l)⟩,λj q=>Nat.lt_of_lt_of_le (vk.lt j q) y.next⟩;have:(m.eraseIdx k).map (·.at_)=(m.map (·.at_)).eraseIdx k:=by
  rw[b!,b!,A!,B!,C!]
 rw[this];exact vk.nd.sublist (List.eraseIdx_sublist _ _)
def aF7{cs:List V}(hl:cs.length=9)(h:Hp):aV 9 (X h.next 0) (.agg (V.ofList cs)) (h.new (O (N 250 true) zTh))=D V.undef (h.new (O (N 250 true) cs)):=by
 have:=XP (h:=h) (t:=250) (f:=true) (z:=zTh) (l:=V.ofList cs) (n:=9) (V.oV _) (by rw[V.dB];exact hl) rfl;rw[V.dB]at this;exact this
structure Upd (h:Hp) (J:Pos->Prop) (pv:Pos) (box had:Int) (now:List (Int×Ml)) (pb pn:Pos) (top:Nat) (Pn:Pos->Prop) (rn:V) (g:Hp) (m':List Mg) (vw':V) (s:List Nat) (L:List V):Prop where
 vk:VwK g J pv box had m' vw'
 bd:Bd h.next.nat g pb 0 141 L s
 ofb:∀j,OfB pb 0 L j->j=pb\/top<=j.nat
 nil:s= []->L[1]?=some .aQ
 rows:Rws Pn D5 9 g rn now
 cell:Kn g pn (O (N 242 true) [rn])
 ch:Ch J h g
 lt:pb.nat<pn.nat/\pn.nat<top/\h.next.nat<=pb.nat
 pn_:∀j,Pn j->pb.nat<j.nat/\j.nat<top/\j≠pn
def Upd.nw{pb pn:Pos}{top:Nat}{Pn:Pos->Prop}{rn:V}{g b:Hp}{m':List Mg}{vw':V}(u:Upd h J pv box had now pb pn top Pn rn g m' vw' s L)(c:Nw g b):Upd h J pv box had now pb pn top Pn rn b m' vw' s L where
 vk:=u.vk.ch c λ_ _ q=>q
 bd:=u.bd.ch c λ_ _ _ q=>q
 ofb:=u.ofb
 nil:=u.nil
 rows:=u.rows.nw eF c
 cell:=u.cell.nw c
 ch:=u.ch.nw c
 lt:=u.lt
 pn_:=u.pn_
def Upd.say{pb pn:Pos}{top:Nat}{Pn:Pos->Prop}{rn:V}{g p:Hp}{m':List Mg}{vw':V}{t:List Nat}{b:List V}(u:Upd h J pv box had now pb pn top Pn rn g m' vw' s L)(r:∀j,J j->j.nat<h.next.nat)(x:top<=g.next.nat)(d:Bd h.next.nat p pb 0 141 b t)(c:Stp (OfB pb 0 L) g (OfB pb 0 b) p)(y:t≠ []):Upd h J pv box had now pb pn top Pn rn p m' vw' t b where
 vk:=u.vk.ch c.ch λj q o=>by have:=r j q;have:=(o.from u.bd _).1;omega
 bd:=d
 ofb:=λj o=>(c.sub j o).elim (u.ofb j) λl=>.inr (by omega)
 nil:=λe=>absurd e y
 rows:=u.rows.ch eF c.ch λj _ q=>⟨q,λo=>(u.ofb j o).elim (λe=>by have:=u.pn_ j q;rw[e]at this;omega) λe=>by have:=u.pn_ j q;omega⟩
 cell:=u.cell.ch c.ch λo=>(u.ofb _ o).elim (λe=>by have:=u.lt;rw[e]at this;omega) λe=>by have:=u.lt;omega
 ch:=u.ch.trans c.ch λj hj o=>by have:=(o.from u.bd _).1;omega
 lt:=u.lt
 pn_:=u.pn_
def Upd.del{pb pn:Pos}{top:Nat}{Pn:Pos->Prop}{rn:V}{g l:Hp}{m' o:List Mg}{vw' d:V}(u:Upd h J pv box had now pb pn top Pn rn g m' vw' s L)(b:∀j,J j->j.nat<h.next.nat)(vk:VwK l J pv box had o d)(c:Ch J g l):Upd h J pv box had now pb pn top Pn rn l o d s L where
 vk:=vk
 bd:=u.bd.ch c λj hb _ q=>by have:=b j q;omega
 ofb:=u.ofb
 nil:=u.nil
 rows:=u.rows.ch eF c λj _ q=>⟨q,λe=>by have:=b j e;have:=u.pn_ j q;have:=u.lt;omega⟩
 cell:=u.cell.ch c λe=>by have:=b _ e;have:=u.lt;omega
 ch:=u.ch.trans c λ_ _ q=>q
 lt:=u.lt
 pn_:=u.pn_
end
section
variable{h h' g:Hp}{F I J:Pos->Prop}{ps pl ib pv pc i:Pos}{A B:Acc}{cb:Cap}{fb only u:Bool}{v vm vl vw:V}{box had:Int}{L:List V}{s:List Nat}{k f n:Nat}{now:List (Int×Ml)}{m:List Mg}{all:Bool}
def amv(now:List (Int×Ml))(i:Nat)(x:Mg)(l:List Mg):jI now i (x::l)=if(oZ now x).isSome=true then jI now (i+1) l else Fp (i+1) [oG]++jI now i l:=(rfl)
def aru{now:List (Int×Ml)}:∀{m:List Mg} {i:Nat},(∀x∈m,(oZ now x).isSome=true)->jI now i m= []
 | [],_,_=>rfl
 |x::m,i,h=>by rw[amv,if_pos (h x (by simp)),aru λy a=>h y (by simp[a])]
def aEb{now:List (Int×Ml)}{m:List Mg}(h:∀x∈m,(oZ now x).isSome=true):zN now m=m:=List.filter_eq_self.2 h
def ayk(a:dV h F ps A pl ib cb fb vm vl I)(hA:A.Small)(vk:VwK h J pv box had m vw)(hm:m.length<50)(hs:(Wn A.mails box).Pairwise λx y=>x.1<y.1)(aD:(Wn A.mails box).length<50)
  (hq:∀x∈m,∀y,oZ (Wn A.mails box) x=some y->y.2.mod<=x.told) (hh:∀y∈Wn A.mails box,y.1<=had) (ab:all=false->∀x∈m,(oZ (Wn A.mails box) x).isSome=true):
  ∃h' vw',ZB [X pv 0,X ps 0,K all] h=D (H (jI (Wn A.mails box) 0 m)) h'/\VwK h' J pv box had (zN (Wn A.mails box) m) vw'/\Ch J h h':=by
 obtain⟨now,aL⟩:∃now,now=Wn A.mails box:=⟨_,rfl⟩
 obtain⟨h1,ap,c1,-⟩:=mkW h (O (N 141 true) [.cZ,.aQ]);have n1:h1.next.nat=h.next.nat+1:=by rw[ap,bG]
 have d1:Bd h.next.nat h1 h.next 0 141 [.cZ,.aQ] []:=by
  rw[ap];exact⟨j! _,by rw[bG];omega,dU _ _,.inl rfl,⟨.aQ,rfl,Ow.nil _ _ _ _,λj hj=>(by cases hj)⟩,azG⟩
 have B0:=(vk.vw.nw c1).ld (q:=0) (x:=iV box) rfl;obtain⟨r,t,e2,o2,c2⟩:=aik (a.nw c1) hA hs aD;rw[<-aL]at hs aD hq hh ab o2⊢;have R2:=(o2.rws eF).mono (P':=λj=>h1.next.nat<=j.nat/\j.nat<t.next.nat) eF λj hj q=>⟨q,hj⟩
 have n2:=c2.next;obtain⟨h3,aq,c3,-⟩:=mkW t (O (N 242 true) [r]);have S3:aV 1 (X t.next 0) r (t.new (O (N 242 true) [.aQ]))=D V.undef h3:=by rw[aq];exact aze R2.cell (by simp)
 have n3:h3.next.nat=t.next.nat+1:=by rw[aq,bG]
 have ax:=(c1.trans c2).trans c3;have u3:Upd h J pv box had now h.next t.next h3.next.nat (λj=>h1.next.nat<=j.nat/\j.nat<t.next.nat) r h3 m vw [] [.cZ,.aQ]:=
  {vk:=vk.ch ax λ_ _ q=>q
   bd:=d1.ch (c2.trans c3) λ_ _ _ q=>q
   ofb:=λj o=>o.elim .inl λ⟨v,e,hv⟩=>by cases e;cases hv
   nil:=λ_=>rfl
   rows:=R2.nw eF c3
   cell:=by rw[aq];exact Kn.new _ _
   ch:=ax.ch
   lt:=⟨by omega,by omega,j! _⟩
   pn_:=λj q=>⟨by omega,by omega,λe=>by rw[e]at q;omega⟩}
 have aa:=vk.lt;rw[asE]
 suffices T:aX g! [.tmp 6] (λr' h'=>r'=H (jI now 0 m)/\∃vw',VwK h' J pv box had (zN now m) vw'/\Ch J h h') (aoo (T.set (some (K all)) (a! 2) (T.set (some (X ps 0)) (a! 1) (T.set (some (X pv 0)) (a! 0) T.nil))) h) by
  obtain⟨r',h',e,rfl,vw',q⟩:=T;exact⟨h',vw',e,q⟩
 simp only[vvB,seval,aoo,aln,alm,awM,awL,awK,awJ,awI,fM,<-ap,B0,e2,S3];refine Oc.then (dW (n:=m.length) (λ μ fr g=>∃(k:Nat) (m':List Mg) (vw':V) (s:List Nat) (L:List V),fr.get (a! 0)=some (X pv 0)/\fr.get (a! 2)=some (K all)/\fr.get (a! 7)=some (X h.next 0)/\fr.get (a! 8)=some (.func (.func 174) .nil (.cons (X h.next 0) .nil))/\fr.get (a! 9)=some (X t.next 0)/\fr.get (a! 10)=some (.func (.func 176) .nil (.cons (X t.next 0) .nil))/\fr.get (a! 11)=some (Y U (k:Int))/\
   k+μ=m'.length/\m'.length<=m.length/\h3.next.nat<=g.next.nat/\Upd h J pv box had now h.next t.next h3.next.nat (λj=>h1.next.nat<=j.nat/\j.nat<t.next.nat) r g m' vw' s L/\s++jI now k (m'.drop k)=jI now 0 m/\m'.take k++zN now (m'.drop k)=zN now m/\s.length+14*m'.length<=14*m.length/\(all=false->k=0/\m'=m/\s= []))
  (A:=λfr g=>∃(vw':V) (L:List V),fr.get (a! 0)=some (X pv 0)/\fr.get (a! 7)=some (X h.next 0)/\fr.get (a! 9)=some (X t.next 0)/\fr.get (a! 10)=some (.func (.func 176) .nil (.cons (X t.next 0) .nil))/\h3.next.nat<=g.next.nat/\Upd h J pv box had now h.next t.next h3.next.nat (λj=>h1.next.nat<=j.nat/\j.nat<t.next.nat) r g (zN now m) vw' (jI now 0 m) L) (B:=λ_ _=>False) (by rw[dP];omega) ?_ ?_) ?_ ?_
 ·exact⟨0,m,vw,[],[.cZ,.aQ],qK0,qK0,qK0,qK0,qK0,qK0,qK1,by omega,j! _,j! _,u3,by simp,by simp,by simp,λ_=>⟨rfl,rfl,rfl⟩⟩
 ·rintro μ fr g ⟨k,m',vw',s,L,d,f2,l,f8,P,b,ag,hk,a8,af,u,W,S,hl,a3⟩;have P1:=u.vk.vw.ld (q:=1) (x:=vw') rfl;have ln:=u.vk.rws.len g;by_cases ha:all=false
  ·obtain⟨rfl,rfl,rfl⟩:=a3 ha;rw[ha]at f2;have g1:=aru (i:=0) (ab ha);simp(disch:=omega)only[vvB,seval,VF,UY,d,f2];refine⟨rfl,vw',L,qK2 d,qK2 l,qK2 P,qK2 b,af,?_⟩;rw[g1,aEb (ab ha)];exact u
  have ha:all=true:=by simpa using ha
  rw[ha]at f2;by_cases hz:μ=0
  ·have C:k=m'.length:=by omega
   subst C;rw[List.drop_length]at W S;simp only[jI,k!]at W;rw[List.take_length,show zN now []= [] from rfl,k!]at S;subst W;subst S;simp(disch:=omega)only[vvB,seval,VF,UY,d,f2,ag,P1,ln];exact⟨rfl,vw',L,qK2 d,qK2 l,qK2 P,qK2 b,af,u⟩
  ·have C:k<m'.length:=by omega
   obtain⟨x,hx⟩:∃x,m'[k]?=some x:=⟨_,e! C⟩
   have a6:m'.drop k=x::m'.drop (k+1):=by rw[h! C];rw[e! C]at hx;cases hx;rfl
   obtain⟨i,q,cs,ix,ex,-,-,-,-,lN⟩:=u.vk.rws.elt hx;obtain rfl:cs=mgC x:=ex;have E:=lN g rfl;obtain⟨G,cs,f,e4,c4,ac,hf,hy⟩:=afe u.cell u.rows (by omega) x;have w:dn Zl (.func (.func 176) .nil (.cons (X t.next 0) .nil)) [.agg (V.ofList (mgC x))] g=D (.tuple (.cons (.agg (V.ofList cs)) (.cons (K f) .nil))) G:=e4;obtain⟨z,ae,c5,-⟩:=mkW G (O (N 250 true) cs);have S5:=aF7 ac G;rw[<-ae]at S5;have ay:=c4.trans c5;have u5:=u.nw ay;have bf:=ay.next;rw[a6]at W S;rw[amr]at S;rw[amv]at W;rw[<-hf]at W S;cases ad:f with
   |true=>
    rw[ad]at W S w;rw[if_pos rfl]at W S;simp(disch:=omega)only[vvB,seval,VF,UY,alk,ags,aa4,d,f2,b,ag,P1,ln,ix,E,w,S5];refine⟨μ - 1,by omega,k+1,m',vw',s,L,qK2 d,by simp only[vvB,seval,f2,ha],qK2 l,qK2 f8,qK2 P,qK2 b,qK1,by omega,a8,by omega,u5,W,?_,hl,λe=>by rw[ha]at e;cases e⟩;rw[Go.Vm.take_snoc hx,p!];exact S
   |false=>
    rw[ad]at W S w;rw[if_neg (by simp)]at W S;obtain⟨g6,ao,c6,-⟩:=mkW z (O (N 9 true) [H oG]);have n6:g6.next.nat=z.next.nat+1:=by rw[ao,bG]
    have u6:=u5.nw c6;have sl:Sl g6.next.nat g6 1 (.slice z.next 0 1 (.kn 1)) [oG].length ([oG].map H):=by
     have:=Sl.aId (el:=9) (h:=z) [H oG] (n:=1) rfl;rw[n6,ao];exact this
    obtain⟨rr,g7,L7,e7,d7,p7⟩:=aHn u6.bd (n:=k+1) (by omega) sl amG (by simp) (by simp[fV]) (by simp) (.inl (by simp)) (by omega);have aM:s++Fp (k+1) [oG]≠ []:=by simp[Fp]
    have u7:=u6.say aa (by omega) d7 p7 aM;have a2:dn Zl (.func (.func 174) .nil (.cons (X h.next 0) .nil)) [Y U ((k:Int)+1),.slice z.next 0 1 (.kn 1)] g6=D rr g7:=by
     have hc:((k+1:Nat):Int)=(k:Int)+1:=by omega
     rw[hc]at e7;exact e7
    obtain⟨g8,g9,bc,e8,k8,S9,bb,c9⟩:=aHq u7.vk C (by omega);have u9:=u7.del aa bb c9;have P7:=u7.vk.vw.ld (q:=1) (x:=vw') rfl;have n7:=p7.ch.next;have n9:=c9.next;have B6:=qI 9 oG (h:=z);rw[<-ao]at B6;simp(disch:=omega)only[vvB,seval,VF,UY,alk,ags,ar2,ar1,d,f2,f8,b,ag,P1,ln,ix,E,w,S5,B6,a2,P7,e8,S9];have ar:(m'.eraseIdx k).length=m'.length - 1:=t! C;have aE:(m'.eraseIdx k).drop k=m'.drop (k+1):=by
     rw[b!,List.drop_append_of_le_length (by rw[q!];omega),u! (by rw[q!];omega),List.nil_append]
    have a9:(m'.eraseIdx k).take k=m'.take k:=by
     rw[b!,List.take_append_of_le_length (by rw[q!];omega),List.take_take,Nat.min_self]
    refine⟨μ - 1,by omega,k,m'.eraseIdx k,bc,_,L7,qK2 d,by simp only[vvB,seval,f2,ha],qK2 l,qK2 f8,qK2 P,qK2 b,qK2 ag,by omega,by omega,by omega,u9,?_,?_,?_,λe=>by rw[ha]at e;cases e⟩
    ·rw[aE,p!];exact W
    ·rw[aE,a9];exact S
    ·have:=(akn (n:=k+1) (by omega)).1;rw[o!,ar];omega
 ·rintro fr g ⟨vw1,L1,d,l,P,b,af,u⟩;obtain⟨m1,au⟩:∃m1,m1=zN now m:=⟨_,rfl⟩
  have aR:∀x∈m1,x∈m:=λx hx=>by rw[au]at hx;exact(List.mem_filter.1 hx).1
  have be:m1.length<=m.length:=by rw[au];exact List.length_filter_le _ _
  rw[<-au]at u⊢;have P1:=u.vk.vw.ld (q:=1) (x:=vw1) rfl;have ln:=u.vk.rws.len g;simp only[vvB,seval,ar0,d,P1,ln];refine Oc.then (dO (σ:=Unit) (n:=m1.length) (pi:=78) (pn:=77) (pc:=79) [0,7,9,10,76] (λ_=> [X pv 0,X h.next 0,X t.next 0,.func (.func 176) .nil (.cons (X t.next 0) .nil),vw1]) (λk _ p=>Nw g p)
   (A:=λfr p=>fr.get (a! 0)=some (X pv 0)/\fr.get (a! 7)=some (X h.next 0)/\fr.get (a! 9)=some (X t.next 0)/\Nw g p) (B:=λ_ _=>False) (s:=())
   (λfr h _ k e1 e2=>by simp only[vvB,seval,arZ,e1,e2]) (λfr h k _ e1=>by simp(disch:=omega)only[vvB,seval,arY,e1]) (by decide) (by rw[dP];omega) (qK0) (qK0) (by simp only[Fa,vvB,seval,d,l,P,b,and_self]) (Nw.refl _) ?_ ?_) ?_ ?_
  ·intro k _ fr p hk ai aB fa c;obtain⟨d,l,P,b,ah,-⟩:=fa;obtain⟨x,hx⟩:∃x,m1[k]?=some x:=⟨_,e! hk⟩
   have u':=u.nw c;obtain⟨i,q,cs,ix,ex,-,-,-,-,lN⟩:=u'.vk.rws.elt hx;obtain rfl:cs=mgC x:=ex;have E:=lN p rfl;obtain⟨G,an⟩:∃G,G=p.new (O (N 248 true) (mgC x)):=⟨_,rfl⟩
   have S2:=mkT 3 zVm an;have al:Nw p G:=by rw[an];exact Nw.new _ _
   have k2:Kn G p.next (O (N 248 true) (mgC x)):=by rw[an];exact Kn.new _ _
   have u2:=u'.nw al;obtain⟨z,cs,f,e4,c4,ac,hf,hy⟩:=afe u2.cell u2.rows (by omega) x;have w:dn Zl (.func (.func 176) .nil (.cons (X t.next 0) .nil)) [.agg (V.ofList (mgC x))] G=D (.tuple (.cons (.agg (V.ofList cs)) (.cons (K f) .nil))) z:=e4;obtain⟨g4,a7,c5,k4⟩:=mkW z (O (N 250 true) cs);have S5:=aF7 ac z;rw[<-a7]at S5;have N2:=k2.ldN (n:=3) rfl;cases ad:f with
   |false=>
    rw[ad]at w;simp(disch:=omega)only[vvB,seval,agr,agq,agp,ah,ai,b,ix,E,S2,N2,w,S5];exact⟨qK2 ai,qK2 aB,(),by simp only[Fa,vvB,seval,d,l,P,b,ah,and_self],((c.trans al).trans c4).trans c5⟩
   |true=>
    rw[ad]at w hf;obtain⟨y,a0⟩:∃y,oZ now x=some y:=Option.isSome_iff_exists.1 hf.symm;obtain⟨av,aw,a5⟩:=hy y a0;rw[a5]at k4;have ar:=hq x (aR x (l! hx)) y a0;have Q:(y.2.mod>x.told)=False:=eq_false (by omega);have T2:=((k2.nw c4).nw c5).ld (q:=2) (x:=X x.at_ 0) rfl;have a4:=asK (n:=x.told) (((u2.vk.told x (l! hx)).nw c4).nw c5) (q:=0) rfl;have M7:=k4.ld (q:=7) (x:=iV y.2.mod) rfl;have cM:∀{k:Out},chk (λh=>aG (X z.next 7) h) (iV y.2.mod) k 1 [g4]=k:=sN rfl M7;simp(disch:=omega)only[vvB,seval,agr,agq,agp,ah,ai,b,ix,E,S2,N2,w,S5,T2,a4,Nat.reduceAdd,M7,cM,Q];exact⟨qK2 ai,qK2 aB,(),by simp only[Fa,vvB,seval,d,l,P,b,ah,and_self],((c.trans al).trans c4).trans c5⟩
  ·intro _ fr p fa c;obtain⟨d,l,P,-⟩:=fa;exact⟨d,l,P,c⟩
  ·rintro fr G ⟨d,l,P,c⟩;have u2:=u.nw c;have P2:=u2.vk.vw.ld (q:=1) (x:=vw1) rfl;have Q2:=u2.vk.vw.ld (q:=2) (x:=iV had) rfl;have ba:=u2.vk.rws.len G;have R9:=u2.cell.ld (q:=0) (x:=r) rfl;have rl:=u2.rows.len G;simp only[vvB,seval,arX,arW,d,P,P2,Q2,ba,R9,rl];refine Oc.then (dO (σ:=Unit) (n:=now.length) (pi:=135) (pn:=134) (pc:=136) [0,7,18,19,133] (λ_=> [X pv 0,X h.next 0,iV had,Y U (m1.length:Int),r]) (λk _ p=>Nw G p)
    (A:=λfr p=>fr.get (a! 0)=some (X pv 0)/\fr.get (a! 7)=some (X h.next 0)/\fr.get (a! 19)=some (Y U (m1.length:Int))/\Nw G p) (B:=λ_ _=>False) (s:=())
    (λfr h _ k e1 e2=>by simp only[vvB,seval,arV,e1,e2]) (λfr h k _ e1=>by simp(disch:=omega)only[vvB,seval,arS,e1]) (by decide) (by rw[dP];omega) (qK0) (qK0) (by simp only[Fa,vvB,seval,d,l,and_self]) (Nw.refl _) ?_ ?_) ?_ ?_
   ·intro k _ fr p hk ak az fa c';obtain⟨d,l,am,M,aj,-⟩:=fa;obtain⟨y,hy⟩:∃y,now[k]?=some y:=⟨_,e! hk⟩
    obtain⟨i,q,cs,ix,ex,ac,-,-,-,lN⟩:=(u2.nw c').rows.elt hy;obtain⟨av,aw,rfl,-,-⟩:=ex;have E:=lN p rfl;obtain⟨z,ae⟩:∃z,z=p.new (O (N 250 true) (thC y av aw)):=⟨_,rfl⟩
    have S5:=aF7 ac p;rw[<-ae]at S5;have c5:Nw p z:=by rw[ae];exact Nw.new _ _
    have k3:Kn z p.next (O (N 250 true) (thC y av aw)):=by rw[ae];exact Kn.new _ _
    have Y0:=k3.ld (q:=0) (x:=iV y.1) rfl;have ar:=hh y (l! hy);have Q:(y.1>had)=False:=eq_false (by omega);simp(disch:=omega)only[vvB,seval,arU,arT,aj,ak,am,ix,E,S5,Y0,Q];exact⟨qK2 ak,qK2 az,(),by simp only[Fa,vvB,seval,d,l,am,M,aj,and_self],c'.trans c5⟩
   ·intro _ fr p fa c';obtain⟨d,l,am,M,-⟩:=fa;exact⟨d,l,M,c'⟩
   ·rintro fr g4 ⟨d,l,M,c'⟩;have Z:=u2.nw c';have P4:=Z.vk.vw.ld (q:=1) (x:=vw1) rfl;have a1:=Z.vk.rws.len g4;have Q:(((m1.length:Nat):Int)>(m1.length:Int))=False:=eq_false (by omega);by_cases he:jI now 0 m= []
    ·have S0:=aBS (L:=L1) ⟨Z.bd.get,Z.bd.hi⟩ (Z.nil he);simp only[vvB,seval,agn,agm,d,l,M,P4,a1,Q,S0];exact aX.ret (qT0) ⟨by rw[he],vw1,Z.vk,Z.ch⟩
    ·have hg:=akJ now m 0 (by omega);obtain⟨g5,e5,c5,n5⟩:=aer Z.bd he hg.2 (by omega);simp only[vvB,seval,agn,agm,d,l,M,P4,a1,Q,e5];refine aX.ret (qT0) ⟨rfl,vw1,Z.vk.ch c5 λj q o=>?_,Z.ch.trans c5 λj hj o=>?_⟩
     ·have:=aa j q;have:=(o.1.from Z.bd _).1;omega
     ·have:=(o.1.from Z.bd _).1;omega
   ·intro fr g q;exact q.elim
  ·intro fr g q;exact q.elim
 ·intro fr g q;exact q.elim
end
end Go.Proofs.Im
namespace Go.Im
abbrev okS:List Nat:= [79,75]
abbrev amB:List Nat:= [100,111,110,101]
abbrev ahg:List Nat:= [79,75,32,100,111,110,101]
def okT(tag tx:List Nat):List Nat:=if tx= [] then lineS [tag,ahg] else lineS [tag,okS,[91]++tx++ [93],amB]
def ZK(A:Acc):Option (Int×Int×List (Int×Int×Int))->Option (Int×Int×List (Int×Int×Int))
 |none=>none
 |some (box,had,l)=>some (box,had,l.filter λx=>((Wn A.mails box).find? λy=>decide (y.1=x.1)&&decide (y.2.id=x.2.1)).isSome)
def Ip(now:List (Int×Ml)):Nat->List (Int×Int×Int)->List Nat
 |_,[]=> []
 |i,x::l=>if((now.find? λy=>decide (y.1=x.1)&&decide (y.2.id=x.2.1)).isSome)=true then Ip now (i+1) l else Fp (i+1) [oG]++Ip now i l
def PU(A:Acc):Option (Int×Int×List (Int×Int×Int))->List Nat
 |none=> []
 |some (box,had,l)=>Ip (Wn A.mails box) 0 l
def Wu(A:Acc)(ks:Int×Int×List (Int×Int×Int)):Prop:=∀x∈ks.2.2,((Wn A.mails ks.1).find? λy=>decide (y.1=x.1)&&decide (y.2.id=x.2.1)).isSome=true
structure CanUpd (A:Acc) (ks:Int×Int×List (Int×Int×Int)):Prop where
 small:A.Small
 few:ks.2.2.length<50
 sorted:(Wn A.mails ks.1).Pairwise λx y=>x.1<y.1
 few2:(Wn A.mails ks.1).length<50
 old:∀x∈ks.2.2,∀y,(Wn A.mails ks.1).find? (λy=>decide (y.1=x.1)&&decide (y.2.id=x.2.1))=some y->y.2.mod<=x.2.2
 had:∀y∈Wn A.mails ks.1,y.1<=ks.2.1
def apw(now:List (Int×Ml)):∀(l:List Mg) (i:Nat),jI now i l=Ip now i (l.map mgK)
 | [],i=>rfl
 |x::l,i=>by
  show(if(oZ now x).isSome=true then jI now (i+1) l else Fp (i+1) [oG]++jI now i l)=_;rw[apw now l (i+1),apw now l i];rfl
def aJf(now:List (Int×Ml))(l:List Mg):(zN now l).map mgK=(l.map mgK).filter λx=>(now.find? λy=>decide (y.1=x.1)&&decide (y.2.id=x.2.1)).isSome:=by
 induction l with
 |nil=>rfl
 |cons x l a=>
  rw[amr,n!,z!];show List.map mgK (if(oZ now x).isSome=true then _ else _)=if(oZ now x).isSome=true then _ else _;split
  ·rw[n!,a]
  ·exact a
end Go.Im
namespace Go.Proofs.Im
section
variable{bb:Nat}{h h' g h0:Hp}{P F I J Z:Pos->Prop}{ps pl ib pv ir pc im a0:Pos}{cb:Cap}{fb uid only last bare part:Bool}{vm vl vv vw:V}{had:Int}{st:Sn}{L:List V}{s tag tx:List Nat}{w:Wds}{ks:Int×Int×List (Int×Int×Int)}{f n:Nat}{b:Bx}{m:List Mg}
def WE(h0:Hp)(Z:Pos->Prop)(h:Hp)(pc im ps:Pos)(st:Sn):Prop:=
 ∃F J pl ib cb fb vm vl vv I,World h pc im ps st F J pl ib cb fb vm vl vv I/\(∀j,Ft F J pc im j->Z j\/h0.next.nat<=j.nat)/\Ch Z h0 h
def Rq.we(q:Rq bb h0 Z h pc im ps ir uid w s st L vw P F J pl ib cb fb vm vl vv I):WE h0 Z h pc im ps st:=⟨F,J,pl,ib,cb,fb,vm,vl,vv,I,q.wd,q.foot,q.chz⟩
def av7(x y:V)(h:Hp):ZB [.cZ,x,y] h=D (H []) h:=by
 rw[asE];simp only[vvB,seval,aoo,aln,alm,aid];simp only[bU,bT,vvB,seval,bW]
def Rq.upd{all:Bool}(q:Rq bb h0 Z h pc im ps ir uid w s st L vw P F J pl ib cb fb vm vl vv I)(u:∀ks,st.vw=some ks->CanUpd st.acc ks)(k:all=false->∀ks,st.vw=some ks->Wu st.acc ks):
  ∃h',ZB [vv,X ps 0,K all] h=D (H (PU st.acc st.vw)) h'/\Rq bb h0 Z h' pc im ps ir uid w s {st with vw:=ZK st.acc st.vw} L vw P F J pl ib cb fb vm vl vv I/\Ch J h h':=by
 have a:=q.wd.view;cases d:st.vw with
 |none=>
  rw[d]at a;refine⟨h,by rw[a.1];exact av7 _ _ _,?_,Ch.refl _ _⟩;have:({st with vw:=ZK st.acc none}:Sn)=st:=by cases st;simp only[ZK]at d⊢;subst d;rfl
  rw[this];exact q
 |some ks=>
  have c:=u ks d;rw[d]at a;obtain⟨pv,vwr,m,rfl,vk,l⟩:=a;have t:m.length=ks.2.2.length:=by have:=congrArg List.length l;simpa using this
  have r:=c.few;obtain⟨h',vw',e1,p,i⟩:=ayk q.wd.acc c.small vk (by omega) c.sorted c.few2 (λx o y v=>c.old (mgK x) (by rw[<-l];exact x! o) y v) c.had λe x o=>k e ks d (mgK x) (by rw[<-l];exact x! o);have w':World h' pc im ps {st with vw:=ZK st.acc (some ks)} F J pl ib cb fb vm vl (X pv 0) I:=
   {acc:=q.wd.acc.ch i λj f=>(q.wd.fj j f).1
    con:=q.wd.con.ch i λj=>(q.wd.jn _ j).1 rfl
    map:=q.wd.map.ch i λj=>(q.wd.jn _ j).2 rfl
    view:=⟨pv,vw',zN (Wn st.acc.mails ks.1) m,rfl,p,by rw[aJf,l]⟩
    ne:=q.wd.ne
    fj:=q.wd.fj
    jn:=q.wd.jn}
  refine⟨h',?_,q.turn w' i (λj e=>.inr (.inl e)) λj e=>.inl e,i⟩;rw[e1,apw,l];rfl
def doX:Go.Vm.F->Hp->Out:=aC (aC aa1 (tT 104 alc alb)) (aC aa0 i!)
def aGX(b:Bool):eqV (K b) (K b)=true:=by cases b<;>rfl
def wU{l:List (List Nat)}(hl:∀t∈l,∀c∈t,c<256):∀c∈lineS l,c<256:=by
 have hj:∀c∈dN [32] l,c<256:=by
  cases l with
  |nil=>intro c e;simp[dN]at e
  |cons a r=>
   intro x d;rw[xX,c!]at d;rcases d with d|d
   ·exact hl a (by simp) x d
   ·unfold iI at d;obtain⟨y,k,j⟩:=List.mem_flatten.1 d;obtain⟨t,i,rfl⟩:=D!.1 k;rcases c!.1 j with q|q
    ·simp at q;omega
    ·exact hl t (by simp[i]) x q
 intro c e;unfold lineS at e;rcases c!.1 e with q|q
 ·exact hj c q
 ·simp at q;omega
def aEo(q:Rq bb h0 Z h pc im ps ir uid w s st L vw P F J pl ib cb fb vm vl vv I)(ka:Kn h a0 (O (N tA true) (anL 0 tx last bare part)))(na:¬OfB ir 5 L a0)(hs:s.length<=1000000)(z:∀c∈s,c<256)(ht:tag.length<=1000000)(i:∀c∈tag,c<256)(hx:tx.length<=1000)(C:∀c∈tx,c<256)
  {fr:Go.Vm.F} (a:fr.get (a! 10)=some (X ir 0)) (d:fr.get (a! 11)=some (X a0 0)) (Q:fr.get (a! 12)=some (H tag)):
  aX g! [.tmp 8,.tmp 9] (λr h'=>r=.tuple (.cons (H (s++okT tag tx)) (.cons (K (!last)) .nil))/\WE h0 Z h' pc im ps st) (doX fr h):=by
 have A1:=ka.ld (q:=1) (x:=H tx) rfl;have fin:∀{E:Hp} {M:List V} {t:List Nat} {fr:Go.Vm.F},Rq bb h0 Z E pc im ps ir uid w (s++t) st M vw P F J pl ib cb fb vm vl vv I->Kn E a0 (O (N tA true) (anL 0 tx last bare part))->¬OfB ir 5 M a0->t≠ []->t.length<=3000000->(∀c∈t,c<256)->fr.get (a! 10)=some (X ir 0)->fr.get (a! 11)=some (X a0 0)->
   aX g! [.tmp 8,.tmp 9] (λr h'=>r=.tuple (.cons (H (s++t)) (.cons (K (!last)) .nil))/\WE h0 Z h' pc im ps st) (aC aa0 i! fr E):=by
  intro E M t fr p G S aa ab B a d;obtain⟨h3,e3,W,n3⟩:=aer p.bd (by simp[aa]) (λc e=>by rcases c!.1 e with q|q;exact z c q;exact B c q) (by simp;omega);have k3:=G.ch W λo=>S o.1;have B2:=G.ld (q:=2) (x:=K last) rfl;have B3:=k3.ld (q:=2) (x:=K last) rfl;simp(disch:=omega)only[vvB,seval,aa0,a,d,e3,B3,LY (m:=λh=>aG (X a0 2) h) B2 (aGX last)];refine aX.ret (qT0) ⟨rfl,F,J,pl,ib,cb,fb,vm,vl,vv,I,p.wd.ch W λj f o=>p.dis j o.1 f,p.foot,p.chz.trans W λj hj o=>(p.ob j o.1).resolve_right (by omega)⟩
 unfold doX;by_cases u:tx= []
 ·have k:(tx= [])=True:=eq_true u;obtain⟨r2,E,M,e2,p,p2⟩:=q.say (el:=9) [tag,ahg] (n:=2) rfl (by omega) (by simp[fV];omega) (by
   intro t ht;simp at ht;rcases ht with rfl|rfl
   ·exact i
   ·decide) (.inr (by simp[dN])) (by simp[dN];omega)
  simp only[n!,E!]at e2;obtain⟨G,S⟩:=keepA p2 ka na;have ho:okT tag tx=dN [32] [tag,ahg]++ [13,10]:=by unfold okT;rw[if_pos u];rfl
  rw[ho];simp(disch:=omega)only[vvB,seval,aa1,alb,a,d,Q,A1,k,apf,e2];have:=fin (fr:=(T.set (some (K false)) (a! 104) fr)) p G S (by simp) (by simp[dN];omega) (λc e=>wU (l:= [tag,ahg]) (by
   intro t ht;simp at ht;rcases ht with rfl|rfl
   ·exact i
   ·decide) c e) (qK2 a) (qK2 d)
  simpa only[vvB,seval]using this
 ·have k:(tx= [])=False:=eq_false u;have Sa:∀(x y:List Nat) (g:Hp),x.length+y.length<4000000->aJ .add .none (H x) (H y) g=D (H (x++y)) g:=λx y g hl=>dX (by omega);have S1:=λg=>Sa [91] tx g (by simp;omega);have S2:=λg=>Sa ([91]++tx) [93] g (by simp;omega);have v:∀t∈ [tag,okS,[91]++tx++ [93],amB],∀c∈t,c<256:=by
   intro t ht;simp only[List.mem_cons,List.not_mem_nil,or_false]at ht;rcases ht with rfl|rfl|rfl|rfl
   ·exact i
   ·decide
   ·intro c e;rw[c!,c!]at e;rcases e with(e|e)|e
    ·revert c;decide
    ·exact C c e
    ·revert c;decide
   ·decide
  obtain⟨r2,E,M,e2,p,p2⟩:=q.say (el:=9) [tag,okS,[91]++tx++ [93],amB] (n:=4) rfl (by omega) (by simp[fV];omega) v (.inr (by simp[dN])) (by simp[dN];omega);simp only[n!,E!]at e2;obtain⟨G,S⟩:=keepA p2 ka na;have ho:okT tag tx=dN [32] [tag,okS,[91]++tx++ [93],amB]++ [13,10]:=by unfold okT;rw[if_neg u];rfl
  rw[ho];simp(disch:=omega)only[vvB,seval,aa1,alc,a,d,Q,A1,k,S1,S2,ape,e2];have:=fin (fr:=(T.set (some (K true)) (a! 104) fr)) p G S (by simp) (by simp[dN];omega) (λc e=>wU (l:= [tag,okS,[91]++tx++ [93],amB]) v c e) (qK2 a) (qK2 d);simpa only[vvB,seval]using this
end
end Go.Proofs.Im
namespace Go.Im
abbrev noS:List Nat:= [32,78,79,32]
def zD(k:Int)(tag tx s2:List Nat)(bare:Bool)(st2:Sn):List Nat:=if k=1 then tag++noS++tx++ [13,10] else if bare=true then s2++okT tag tx else s2++PU st2.acc st2.vw++okT tag tx
def Fz(k:Int)(bare:Bool)(st2:Sn):Sn:=if k=1\/bare=true then st2 else{st2 with vw:=ZK st2.acc st2.vw}
def akK(now:List (Int×Ml)):∀(l:List (Int×Int×Int)) (i:Nat),i+l.length<100->(Ip now i l).length<=14*l.length/\∀c∈Ip now i l,c<256
 | [],i,_=>⟨by simp[Ip],λc a=>by simp[Ip]at a⟩
 |x::l,i,h=>by
  simp only[y!]at h;unfold Ip;split
  ·have:=akK now l (i+1) (by omega);exact⟨by simp;omega,this.2⟩
  ·have d:=akK now l i (by omega);have e:=akn (n:=i+1) (by omega);refine⟨by simp;omega,λc a=>?_⟩;rcases c!.1 a with q|q
   ·exact e.2.1 c q
   ·exact d.2 c q
def aIz{A:Acc}{o:Option (Int×Int×List (Int×Int×Int))}(d:∀ks,o=some ks->CanUpd A ks):(PU A o).length<=1000/\∀c∈PU A o,c<256:=by
 cases o with
 |none=>exact⟨by simp[PU],λc a=>by simp[PU]at a⟩
 |some ks=>
  have h:=(d ks rfl).few;have:=akK (Wn A.mails ks.1) ks.2.2 0 (by omega);exact⟨by show(Ip (Wn A.mails ks.1) 0 ks.2.2).length<=1000;omega,this.2⟩
end Go.Im
namespace Go.Proofs.Im
section
variable{bb:Nat}{h h' g h0:Hp}{P F I J Z S:Pos->Prop}{ps pl ib p ir pc im:Pos}{cb:Cap}{fb only last bare part:Bool}{v vm vl vv vw:V}{st st2:Sn}{L b:List V}{s s2 nm tx:List Nat}{w:Wds}{ks:Int×Int×List (Int×Int×Int)}{f n:Nat}{now:List (Int×Ml)}{m:List Mg}
def aD1{v c s:V}{n:Int}(e:v.cells= [v]/\iq v=true)(a:c.cells= [c]/\iq c=true)(d:s.cells= [s]/\iq s=true)(h:Hp):
  bK [.cZ,.cZ,Y U 0,.aQ,K false,.cZ,.aQ] [(0,1,c),(1,1,s),(2,1,Y U n),(3,1,v)] h=D (.agg (.cons c (.cons s (.cons (Y U n) (.cons v (.cons (K false) (.cons .cZ (.cons .aQ .nil)))))))) h:=by
 unfold bK;simp only[Ir,e.1,e.2,a.1,a.2,d.1,d.2];rfl
def aI8:liesAt g! g!.depth 143 (7 / g!.cellsOf 143) 5 141 1=true:=kR
def arJ{c:List ResultVar}{Q a:V->Hp->Prop}{o:Out}(t:aX g! c Q o)(d:∀r h,Q r h->a r h):aX g! c a o:=by
 obtain⟨r,h,e,q⟩:=t;exact⟨r,h,e,d r h q⟩
def aeT(a l:V):(V.cons a l).list=a::l.list:=(rfl)
def akD:V.nil.list= []:=(rfl)
def aHK:aIw=(aC TQ (aC (bI 0 (aC TP (tT 13 (aC aqs i!) (aC TM (tT 20 (aC aqr i!) (aC TL (tT 24 (aC aqp i!) r!))))))) (aC TK (aC TJ (aC TI (aC NJ (aC (bI 1 (aC NI (tT 66 (aC aa3 i!) (aC UX (tT 76 (aC ald i!) r!))))) (aC (aC UW (tT 88 aa2 r!)) doX)))))))):=rfl
def aku(t:TypeId)(h:Hp):eY t [Y U 0,H [],K false,K false,K false] h=D (X h.next 0) (h.new (O (N t true) zAn)):=(rfl)
def N9(pc im ps:Pos)(w:Wds)(nm:List Nat)(st:Sn)(b:List V)(s2:List Nat)(st2:Sn):Prop:=
 ∀(bb:Nat) (h0:Hp) (Z:Pos->Prop) (h:Hp) (ir:Pos) (L:List V) (vw:V) (P F J:Pos->Prop) (pl ib:Pos) (cb:Cap) (fb:Bool) (vm vl vv:V) (I:Pos->Prop),Rq bb h0 Z h pc im ps ir false w [] st L vw P F J pl ib cb fb vm vl vv I->
  ∃h' vw' P' w' a,ZC [X pc 0,X ir 0,H nm] h=D (.agg (V.ofList b)) h'/\DL bb h0 Z vw' P' h' pc im ps ir a w' s2 st2
def aQc{g:Ln.Got}{x y:Wd}{kk now:Int}(W:World h pc im ps st F J pl ib cb fb vm vl vv I)(tw:WS P h vw g.words)(hP:∀j,P j->¬Ft F J pc im j)(hk:g.kind=1)(am:g.words.get? 0=some x)(aR:x.kind=1)(af:g.words.get? 1=some y)(a0:y.kind=1)
  (M:x.text.length<=1000000/\∀c∈x.text,c<256) (a2:y.text.length<=1000000/\∀c∈y.text,c<256) (be:0<=st.cnt/\st.cnt<1000000) (aa:N9 pc im ps (g.words.drop 2) (foldM y.text) {st with cnt:=st.cnt+1} (anL kk tx last bare part) s2 st2)
  (aM:kk=0\/kk=1) (G:tx.length<=1000/\∀c∈tx,c<256) (ak:s2.length<=100000/\∀c∈s2,c<256) (hu:kk=0->bare=false->∀ks,st2.vw=some ks->CanUpd st2.acc ks) (hp:part=true->kk=0->bare=false->∀ks,st2.vw=some ks->Wu st2.acc ks):
  ∃h',ahO [X pc 0,X ps 0,Y U now,.agg (.cons (Y U g.kind) (.cons vw .nil))] h=D (.tuple (.cons (H (zD kk x.text tx s2 bare st2)) (.cons (K (if kk=1 then true else !last)) .nil))) h'/\WE h (Ft F J pc im) h' pc im ps (Fz kk bare st2):=by
 obtain⟨k,C,c1,g1⟩:=mkW h (O (N 94 true) [Y U g.kind,vw]);have n1:k.next.nat=h.next.nat+1:=by rw[C,bG]
 have ao:WS P k vw g.words:=tw.ch c1 λj _ q=>⟨q,λq=>q⟩
 have W1:=W.ch c1 λ_ _ q=>q;have G0:aG (X h.next 0) k=D (Y U 1) k:=by rw[<-hk];exact g1.ld rfl
 have G1:=g1.ld (q:=1) (x:=vw) rfl;have aD:SK g.words 0=true:=by unfold SK;rw[am];exact decide_eq_true aR
 have aE:SK g.words 1=true:=by unfold SK;rw[af];exact decide_eq_true a0
 have A0:EU [vw,Y U 0] k=D (K true) k:=by have:=aeY ao 0;rwa[aD]at this
 have A1:EU [vw,Y U 1] k=D (K true) k:=by have:=aeY ao 1;rwa[aE]at this
 have aj:2<=g.words.len:=by have:=Wds.C9 af;omega
 obtain⟨st1,d⟩:∃st1,st1=({st with cnt:=st.cnt+1}:Sn):=⟨_,rfl⟩
 rw[<-d]at aa;obtain⟨a,E⟩:∃a,a=k.put pc (some (O (N tCn true) [K st1.inn,vv,K st1.only,iV st1.cnt,.map im])):=⟨_,rfl⟩
 have i:ZE [X pc 3,Y U 1] k=D (Y U (st.cnt+1)) a:=by
  have:=axP W1.con (q:=3) (n:=st.cnt) (m:=1) rfl (by omega) (by omega);rw[E,d];exact this
 have W2:World a pc im ps st1 F J pl ib cb fb vm vl vv I:=by
  rw[E];exact W1.amF (by rw[d]) (by rw[d];exact W1.view) λj q=>⟨λf=>(W1.fj j f).1 q,W1.jn j q⟩
 have c2:Ch (λj=>j=pc) k a:=by rw[E];exact Ch.put _ _ rfl
 have n2:a.next.nat=h.next.nat+1:=by rw[E,jJ,n1]
 have ac:Ch (Ft F J pc im) h a:=(c1.ch (S:=Ft F J pc im)).trans (c2.mono λj _ e=>.inr (.inr (.inl e))) λ_ _ q=>q;have hZ:∀j,Ft F J pc im j->j.nat<h.next.nat:=W.lt;have g2:Kn a h.next (O (N 94 true) [Y U g.kind,vw]):=g1.ch c2 λe=>by have:=hZ _ (.inr (.inr (.inl e)));omega
 have ap:WS P a vw g.words:=tw.ch ac λj _ q=>⟨q,hP j q⟩
 have G2:=g2.ld (q:=1) (x:=vw) rfl;obtain⟨v',es,ab⟩:=ap.from aj;have ad:∀h',eP 3 vw (some (Y U 2)) none none h'=D v' h':=es;obtain⟨t,B,c3,-⟩:=mkW a (O (N 143 true) [X pc 0,X ps 0,Y U now,v',K false,.cZ,.aQ]);have n3:t.next.nat=a.next.nat+1:=by rw[B,bG]
 have g3:t.get a.next=some (O (N 143 true) [X pc 0,X ps 0,Y U now,v',K false,.cZ,.aQ]):=by rw[B];exact dU _ _
 have d3:Bd a.next.nat t a.next 5 143 [X pc 0,X ps 0,Y U now,v',K false,.cZ,.aQ] []:=
  ⟨j! _,by omega,g3,.inl rfl,⟨.aQ,rfl,Ow.nil _ _ _ _,λj hj=>(by cases hj)⟩,aI8⟩
 have a7:WS P t v' (g.words.drop 2):=ab.ch c3 λj _ q=>⟨q,λq=>q⟩
 have ar:WS P t vw g.words:=ap.ch c3 λj _ q=>⟨q,λq=>q⟩
 have G3:=(g2.nw c3).ld (q:=1) (x:=vw) rfl;have B0:=aD1 (v:=v') (c:=X pc 0) (s:=X ps 0) (n:=now) a7.cell ⟨rfl,rfl⟩ ⟨rfl,rfl⟩ a;obtain⟨P',aB,aq⟩:∃P':Pos->Prop,(∀j,P' j->j.nat<a.next.nat/\¬Ft F J pc im j)/\WS P' t v' (g.words.drop 2):=
  ⟨λj=>P j/\j.nat<a.next.nat,λj q=>⟨q.2,hP j q.1⟩,(ab.ch (P':=λj=>P j/\j.nat<a.next.nat) (Nw.refl a) λj hj q=>⟨⟨q,hj⟩,λq=>q⟩).ch c3 λj _ q=>⟨q,λq=>q⟩⟩
 obtain⟨j,q,vk,i1,i2,i3,i4,-⟩:=WS.at ar af;have ag:∀h',bD 3 vw (Y U 1) h'=D (X j q) h':=i1;have ah:aG (X j (q+1)) t=D (H y.text) t:=i3;obtain⟨rf,h4,e4,rfl,c4⟩:=akM (h:=t) (by omega) a2.2;have ax:Nw t h4:=c4;have q3:Rq a.next.nat a (Ft F J pc im) t pc im ps a.next false (g.words.drop 2) [] st1 [X pc 0,X ps 0,Y U now,v',K false,.cZ,.aQ] v' P' F J pl ib cb fb vm vl vv I:=
  {bd:=d3
   hbb:=j! _
   ob:=λj o=>.inr (o.from d3 _).1
   l0:=rfl
   l1:=rfl
   l3:=rfl
   l4:=rfl
   ws:=aq
   wd:=W2.ch c3 λ_ _ q=>q
   dis:=λj o f=>by have:=(o.from d3 _).1;have:=hZ j f;omega
   old:=aB
   foot:=λj f=>.inl f
   chz:=c3.ch}
 obtain⟨h5,bc,P5,w5,au,e5,r5⟩:=aa _ _ _ _ _ _ _ _ _ _ _ _ _ _ _ _ _ _ (q3.nw ax);obtain⟨L5,F5,J5,a6,a3,ay,az,ba,a9,av,I5,q5⟩:=r5;obtain⟨h7,aL,c7,k7⟩:=mkW h5 (O (N tA true) (anL kk tx last bare part));have S7:aV 5 (X h5.next 0) (anV kk tx last bare part) (h5.new (O (N tA true) zAn))=D V.undef h7:=by rw[aL];exact XP (V.oV _) rfl rfl
 have q7:=q5.nw c7;have an:¬OfB a.next 5 L5 h5.next:=λo=>by have:=(o.from q5.bd _).2;omega
 have a5:¬Ft F5 J5 pc im h5.next:=λf=>by have:=q5.wd.lt _ f;omega
 have aw:Ch (Ft F J pc im) h h7:=ac.trans q7.chz λ_ _ q=>q;have a8:WS P h7 vw g.words:=tw.ch aw λj _ q=>⟨q,hP j q⟩
 have g7:Kn h7 h.next (O (N 94 true) [Y U g.kind,vw]):=g2.ch q7.chz λf=>by have:=hZ _ f;omega
 have G7:=g7.ld (q:=1) (x:=vw) rfl;obtain⟨jt,qt,vt,t1,t2,t3,t4,-⟩:=WS.at a8 am;have ai:∀h',bD 3 vw (Y U 0) h'=D (X jt qt) h':=t1;have K0:=k7.ld (q:=0) (x:=Y U kk) rfl;have K1:=k7.ld (q:=1) (x:=H tx) rfl;have K3:=k7.ld (q:=3) (x:=K bare) rfl;have back:∀{h8:Hp} {s8:Sn},WE a (Ft F J pc im) h8 pc im ps s8->WE h (Ft F J pc im) h8 pc im ps s8:=λ⟨F,J,pl,ib,cb,fb,vm,vl,vv,I,w,hf,c⟩=>⟨F,J,pl,ib,cb,fb,vm,vl,vv,I,w,λj f=>(hf j f).imp id λl=>by omega,ac.trans c λ_ _ q=>q⟩
 rw[aH4,aHK]
 suffices T:aX g! [.tmp 8,.tmp 9] (λr h'=>r=.tuple (.cons (H (zD kk x.text tx s2 bare st2)) (.cons (K (if kk=1 then true else !last)) .nil))/\WE h (Ft F J pc im) h' pc im ps (Fz kk bare st2))
   (aC TQ (aC (bI 0 (aC TP (tT 13 (aC aqs i!) (aC TM (tT 20 (aC aqr i!) (aC TL (tT 24 (aC aqp i!) r!))))))) (aC TK (aC TJ (aC TI (aC NJ (aC (bI 1 (aC NI (tT 66 (aC aa3 i!) (aC UX (tT 76 (aC ald i!) r!))))) (aC (aC UW (tT 88 aa2 r!)) doX)))))))
    (T.set (some (.agg (.cons (Y U g.kind) (.cons vw .nil)))) (a! 3) (T.set (some (Y U now)) (a! 2) (T.set (some (X ps 0)) (a! 1) (T.set (some (X pc 0)) (a! 0) T.nil)))) h) by
  obtain⟨r,h',e,rfl,w⟩:=T;exact⟨h',e,w⟩
 rcases aM with rfl|rfl
 ·have ae:(if(0:Int)=1 then true else !last)=!last:=if_neg (by decide);rw[ae];cases bare with
  |true=>
   have z:zD 0 x.text tx s2 true st2=s2++okT x.text tx:=by unfold zD;rw[if_neg (by decide),if_pos rfl]
   have u:Fz 0 true st2=st2:=by unfold Fz;rw[if_pos (.inr rfl)]
   rw[z,u];simp(disch:=omega)only[vvB,seval,TQ,TP,TM,TL,TK,TJ,TI,NJ,NI,UX,UW,aeT,akD,<-C,fM,G0,G1,A0,A1,i,G2,ad,B0,<-B,G3,ag,ah,e4,e5,aku,S7,G7,ai,t3,K0,K3,v!,Int.reduceEq];exact arJ (aEo q7 k7 an (by omega) ak.2 M.1 M.2 G.1 G.2 (qK0) (qK0) (qK0)) λr h' q=>⟨q.1,back q.2⟩
  |false=>
   have z:zD 0 x.text tx s2 false st2=s2++PU st2.acc st2.vw++okT x.text tx:=by unfold zD;rw[if_neg (by decide),if_neg (by simp)]
   have u:Fz 0 false st2={st2 with vw:=ZK st2.acc st2.vw}:=by unfold Fz;rw[if_neg (by simp)]
   rw[z,u];have al:=hu rfl rfl;have C1:=q7.wd.con.ld (q:=1) (x:=av) rfl;have K4:=k7.ld (q:=4) (x:=K part) rfl;obtain⟨h8,e8,q8,c8⟩:=q7.upd (all:=!part) al λe=>hp (by simpa using e) rfl rfl;have k8:=k7.ch c8 λjj=>a5 (.inr (.inl jj));have a1:=aIz al;obtain⟨r9,h9,L9,e9,d9,p9,Q,l9⟩:=TS q8.bd (PU st2.acc st2.vw) (by omega);have q9:Rq a.next.nat a (Ft F J pc im) h9 pc im ps a.next au w5 (s2++PU st2.acc st2.vw) {st2 with vw:=ZK st2.acc st2.vw} L9 bc P5 F5 J5 a6 a3 ay az ba a9 av I5:=
    {bd:=d9
     hbb:=q8.hbb
     ob:=λj o=>(p9.sub j o).elim (q8.ob j) λl=>.inr (Nat.le_trans q8.chz.next l)
     l0:=by rw[Q 0 (by omega) (by omega)];exact q8.l0
     l1:=by rw[Q 1 (by omega) (by omega)];exact q8.l1
     l3:=by rw[Q 3 (by omega) (by omega)];exact q8.l3
     l4:=by rw[Q 4 (by omega) (by omega)];exact q8.l4
     ws:=q8.ws.ch p9.ch λj _ p=>⟨p,λo=>by have:=(q8.old j p).1;have:=(o.from q8.bd _).1;omega⟩
     wd:=q8.wd.ch p9.ch λj f o=>q8.dis j o f
     dis:=λj o f=>(p9.sub j o).elim (λo=>q8.dis j o f) λl=>by have:=q8.wd.lt j f;omega
     old:=q8.old
     foot:=q8.foot
     chz:=q8.chz.trans p9.ch λj hj o=>(q8.ob j o).resolve_right (by omega)}
   obtain⟨k9,a4⟩:=keepA p9 k8 an;simp(disch:=omega)only[vvB,seval,TQ,TP,TM,TL,TK,TJ,TI,NJ,NI,UX,UW,aa2,aeT,akD,<-C,fM,G0,G1,A0,A1,i,G2,ad,B0,<-B,G3,ag,ah,e4,e5,aku,S7,G7,ai,t3,K0,K3,C1,K4,e8,e9,v!,Int.reduceEq];exact arJ (aEo q9 k9 a4 (by rw[o!];omega) (λc hc=>by rcases c!.1 hc with q|q;exact ak.2 c q;exact a1.2 c q) M.1 M.2 G.1 G.2 (qK0) (qK0) (qK0)) λr h' q=>⟨q.1,back q.2⟩
 ·have z:zD 1 x.text tx s2 bare st2=x.text++noS++tx++ [13,10]:=by unfold zD;rw[if_pos rfl]
  have u:Fz 1 bare st2=st2:=by unfold Fz;rw[if_pos (.inl rfl)]
  have ae:(if(1:Int)=1 then true else !last)=true:=if_pos rfl;rw[z,u,ae];have Sa:∀(x y:List Nat) (g:Hp),x.length+y.length<4000000->aJ .add .none (H x) (H y) g=D (H (x++y)) g:=λx y g hl=>dX (by omega);have S1:=λg=>Sa x.text noS g (by simp;omega);have S2:=λg=>Sa (x.text++noS) tx g (by simp;omega);have S3:=λg=>Sa (x.text++noS++tx) [13,10] g (by simp;omega);simp(disch:=omega)only[vvB,seval,TQ,TP,TM,TL,TK,TJ,TI,NJ,NI,aa3,aeT,akD,<-C,fM,G0,G1,A0,A1,i,G2,ad,B0,<-B,G3,ag,ah,e4,e5,aku,S7,G7,ai,t3,K0,K1,S1,S2,S3,v!,Int.reduceEq];exact aX.ret (qT0) ⟨rfl,back q7.we⟩
end
section
variable{h h' g:Hp}{P F I J:Pos->Prop}{ps pl ib pc im i:Pos}{A B:Acc}{cb:Cap}{fb only u:Bool}{v vm vl vv vw:V}{st st2:Sn}{s:List Nat}{w:Wds}{k f n:Nat}
def Told.atN{P:Pos->Prop}{h:Hp}{v:V}{gs:List Ln.Got}(t:Told P h v gs){k:Nat}{g:Ln.Got}(e:gs[k]?=some g):
  ∃j q vw,(∀h',bD 2 v (Y U (k:Int)) h'=D (X j q) h')/\cO 2 (X j q) h=D (.agg (.cons (Y U g.kind) (.cons vw .nil))) h/\Xr P h vw g.words:=by
 obtain⟨cs,o,i,w⟩:=t;have hk:k<gs.length:=(d!.1 e).1;obtain⟨a,vw,b,c⟩:=w.get e;obtain⟨j,q,e1,-,-,e2⟩:=o.sl.atN hk;refine⟨j,q,vw,e1,?_,c⟩;rw[e2 h rfl];obtain⟨l0,d⟩:=d!.1 a;obtain⟨l1,l⟩:=d!.1 b;rw[h! l0,h! l1,d,l];rfl
def wS(pc im ps:Pos)(g:Ln.Got)(st:Sn)(t:List Nat)(on:Bool)(a:Sn):Prop:=
 t.length<=2000000/\∀(h:Hp) (F J:Pos->Prop) (pl ib:Pos) (cb:Cap) (fb:Bool) (vm vl vv:V) (I:Pos->Prop) (P:Pos->Prop) (vw:V),World h pc im ps st F J pl ib cb fb vm vl vv I->WS P h vw g.words->(∀j,P j->¬Ft F J pc im j)->
  ∃h',ahO [X pc 0,X ps 0,Y U 0,.agg (.cons (Y U g.kind) (.cons vw .nil))] h=D (.tuple (.cons (H t) (.cons (K on) .nil))) h'/\WE h (Ft F J pc im) h' pc im ps a
inductive Alls (pc im ps:Pos):List Ln.Got->Sn->List Nat->Sn->Prop
 |nil (st:Sn):Alls pc im ps [] st [] st
 |go {g:Ln.Got} {gs:List Ln.Got} {st st1 st2:Sn} {t u:List Nat}:wS pc im ps g st t true st1->Alls pc im ps gs st1 u st2->Alls pc im ps (g::gs) st (t++u) st2
 |stop {g:Ln.Got} {gs:List Ln.Got} {st st1:Sn} {t:List Nat}:wS pc im ps g st t false st1->Alls pc im ps (g::gs) st t st1
def aFV{s t:List Nat}{gs:List Ln.Got}{st c:Sn}{d m:Pos->Prop}(W:World h pc im ps st d m pl ib cb fb vm vl vv I)(hG:Ik.aI<=h.next.nat)(hF:Fed s gs)(ha:Alls pc im ps gs st t c):
  ∃h',VK [X pc 0,X ps 0,H s] h=D (H t) h'/\WE h (Ft d m pc im) h' pc im ps c:=by
 obtain⟨hl,aq,ag⟩:=hF;obtain⟨v,G,ad,y,E⟩:=ag h hG;have au:=y.next;have hZ:=W.lt;have af:FX (H s) (h.new Ik.rdO)=D (.slice h.next.succ 0 s.length (.un 1)) ((h.new Ik.rdO).new (.bytes (bys s))):=auS (by omega);have ac:alI [Y U 4000] h=D (X h.next 0) (h.new Ik.rdO):=Ik.aNQ h;rw[ayX]
 suffices T:aX g! [.tmp 6] (λr h'=>r=H t/\WE h (Ft d m pc im) h' pc im ps c) (alu (T.set (some (H s)) (a! 2) (T.set (some (X ps 0)) (a! 1) (T.set (some (X pc 0)) (a! 0) T.nil))) h) by
  obtain⟨r,h',e,rfl,w⟩:=T;exact⟨h',e,w⟩
 simp(disch:=omega)only[vvB,seval,alu,aln,anN,anM,adw,ac,af,ad];refine Oc.then (dW (n:=gs.length) (λ μ fr g=>∃(k:Nat) (acc u:List Nat) (si:Sn),fr.get (a! 0)=some (X pc 0)/\fr.get (a! 1)=some (X ps 0)/\fr.get (a! 7)=some v/\fr.get (a! 8)=some (H acc)/\fr.get (a! 9)=some (Y U (k:Int))/\
   k+μ=gs.length/\Alls pc im ps (gs.drop k) si u c/\acc++u=t/\acc.length<=k*2000000/\Told (λj=>h.next.nat<=j.nat/\j.nat<G.next.nat) g v gs/\G.next.nat<=g.next.nat/\
   ∃F J pl ib cb fb vm vl vv I,World g pc im ps si F J pl ib cb fb vm vl vv I/\(∀j,Ft F J pc im j->j.nat<h.next.nat\/G.next.nat<=j.nat)/\(∀j,Ft F J pc im j->Ft d m pc im j\/h.next.nat<=j.nat)/\Ch (Ft d m pc im) h g)
  (A:=λfr g=>fr.get (a! 8)=some (H t)/\WE h (Ft d m pc im) g pc im ps c) (B:=λ_ _=>False) (by rw[dP];omega) ?_ ?_) ?_ ?_
 ·exact⟨0,[],t,st,qK0,qK0,qK0,qK0,qK1,by omega,ha,rfl,by simp,E,j! _,d,m,pl,ib,cb,fb,vm,vl,vv,I,W.ch y (λ_ _ q=>q),λj f=>.inl (hZ j f),λj f=>.inl f,y.ch⟩
 ·rintro μ fr g ⟨k,acc,u,si,f0,f1,f7,Q,f9,hk,a,hu,ao,tg,ar,F,J,pl,ib,cb,fb,vm,vl,vv,I,w,b,z,cg⟩;by_cases hz:μ=0
  ·have ah:gs.length<=k:=by omega
   rw[u! ah]at a;cases a;rw[k!]at hu;subst hu;simp(disch:=omega)only[vvB,seval,SS,SN,f7,f9,Told.len tg];exact⟨rfl,qK2 Q,F,J,pl,ib,cb,fb,vm,vl,vv,I,w,z,cg⟩
  ·have Z:k<gs.length:=by omega
   have S:gs[k]?=some gs[k]:=e! Z;rw[h! Z]at a;generalize gs[k]=gk at S a;obtain⟨j,q,vw,i1,i2,wr⟩:=tg.atN S;have ap:k*2000000<=1000*2000000:=Nat.mul_le_mul_right _ (by omega);have next:∀{x:List Nat} {on:Bool} {s1:Sn},wS pc im ps gk si x on s1->∃o,ahO [X pc 0,X ps 0,Y U 0,.agg (.cons (Y U gk.kind) (.cons vw .nil))] g=D (.tuple (.cons (H x) (.cons (K on) .nil))) o/\x.length<=2000000/\Told (λj=>h.next.nat<=j.nat/\j.nat<G.next.nat) o v gs/\G.next.nat<=o.next.nat/\
     ∃F J pl ib cb fb vm vl vv I,World o pc im ps s1 F J pl ib cb fb vm vl vv I/\(∀j,Ft F J pc im j->j.nat<h.next.nat\/G.next.nat<=j.nat)/\(∀j,Ft F J pc im j->Ft d m pc im j\/h.next.nat<=j.nat)/\Ch (Ft d m pc im) h o:=by
    intro x on s1 hd;obtain⟨o,M,F',J',ak,aj,ab,ae,am,al,an,I',w3,p,L⟩:=hd.2 g F J pl ib cb fb vm vl vv I _ vw w wr.ws λj q f=>by have:=b j f;omega
    have n3:=L.next;refine⟨o,M,hd.1,tg.ch L λj _ q=>⟨q,λf=>by have:=b j f;omega⟩,by omega,F',J',ak,aj,ab,ae,am,al,an,I',w3,λj f=>(p j f).elim (b j) λl=>.inr (by omega),λj f=>(p j f).elim (z j) λl=>.inr (by omega),cg.trans L λj hj f=>(z j f).resolve_right (by omega)⟩
   cases a with
   |go hd C=>
    rename_i st1 x u1;obtain⟨o,M,ai,aa,n3,w3⟩:=next hd
    have S1:∀h,aJ .add .none (H acc) (H x) h=D (H (acc++x)) h:=λh=>dX (by omega);simp(disch:=omega)only[vvB,seval,SS,SN,mP,aaO,aaN,aaM,f0,f1,f7,Q,f9,Told.len tg,i1,i2,M,S1];exact⟨μ - 1,by omega,k+1,acc++x,u1,st1,qK2 f0,qK2 f1,qK2 f7,qK0,qK1,by omega,C,by rw[p!];exact hu,by rw[o!];omega,aa,n3,w3⟩
   |stop hd=>
    obtain⟨o,M,ai,aa,n3,F,J,pl,ib,cb,fb,vm,vl,vv,I,w3,-,p,L⟩:=next hd
    have S1:∀h,aJ .add .none (H acc) (H u) h=D (H (acc++u)) h:=λh=>dX (by omega);simp(disch:=omega)only[vvB,seval,SS,SN,aaO,aaN,aaM,f0,f1,f7,Q,f9,Told.len tg,i1,i2,M,S1];exact⟨rfl,qK2 hu,F,J,pl,ib,cb,fb,vm,vl,vv,I,w3,p,L⟩
 ·rintro fr g ⟨Q,w⟩;simp(disch:=omega)only[vvB,seval,anI,Q];exact aX.ret (qT0) ⟨rfl,w⟩
 ·intro fr g q;exact q.elim
end
end Go.Proofs.Im
namespace Go.Vm
section
variable{h:Hp}
def ldL{i:Pos}{wr:Wr}{l r:List V}{n:Nat}(a:h.get i=some (O wr (l++r)))(hn:l.length=n):cO n (X i 0) h=D (.agg (V.ofList l)) h:=by
 show dR h i (λ_ cs=>match gJ n (fG 0 cs) with|some l=>R.ok (V.agg (V.ofList l)) h|none=>.bad)=_;rw[dM (wr:=wr) (all:=l++r) (by rw[a];rfl)];rw[Bc (cs:=l) (λf b=>by rw[Nat.zero_add,List.getElem?_append_left (by omega)]) hn]
def ara:∀{l m:List V},l.length=m.length->Sv l m=some l
 | [],[],_=>rfl
 | [],_::_,h=>by cases h
 |_::_,[],h=>by cases h
 |a::l,b::m,h=>by
  show Option.casesOn (motive:=λ_=>Option (List V)) (Sv l m) none (λr=>some (a::r))=_;rw[ara (by simpa using h)]
def stL{i:Pos}{t:TypeId}{f:Bool}{l m:List V}{n:Nat}(c:h.get i=some (O (N t f) m))(e:l.length=m.length)(hn:l.length=n):aV n (X i 0) (.agg (V.ofList l)) h=D V.undef (h.put i (some (O (N t f) l))):=by
 have b:V.cells (.agg (V.ofList l))=l:=V.dB l;rw[CV c rfl (by rw[b,hn,Nat.beq_refl]),b];show(match Sv l m with|some a=>R.ok V.undef (h.put i (some (O (N t f) a)))|none=>.bad)=_;rw[ara e]
end
end Go.Vm
namespace Go.Proofs.Im
def avK(x:V)(h:Hp):Di g! 62 x h=cO 9 x h:=kR
def aEt{h:Hp}{i:Pos}{wr:Wr}{l r:List V}(o:h.get i=some (O wr (l++r)))(hl:l.length=9)(hi:i.nat<h.next.nat):∃h',atI [X i 0] h=D (.agg (V.ofList l)) h'/\Ch (λ_=>False) h h':=by
 obtain⟨b,a⟩:∃b,b=h.new (O (N 62 true) [H [],H [],Y U 0,Y U 0,Y U 0,Y U 0,Y U 0,Y U 0,Y U 0]):=⟨_,rfl⟩
 have k:Ch (λ_=>False) h b:=by rw[a];exact Ch.new _ _ _
 have m:b.get h.next=some (O (N 62 true) [H [],H [],Y U 0,Y U 0,Y U 0,Y U 0,Y U 0,Y U 0,Y U 0]):=by rw[a];exact dU _ _
 have e:=ldL ((k.get i hi λq=>q).trans o) hl;have j:=stL (l:=l) m hl hl;have c:cO 9 (X h.next 0) (b.put h.next (some (O (N 62 true) l)))=D (.agg (V.ofList l)) (b.put h.next (some (O (N 62 true) l))):=ldL (r:= []) (by rw[jZ,k!]) hl;rw[aH0];simp(disch:=omega)only[vvB,seval,aIt,aBn,afx,aBl,apa,<-a,fM,e,j];exact⟨b.put h.next (some (O (N 62 true) l)),by simp only[bU,bT,vvB,seval,avK,c,bW],by rw[a];exact ahs _ _ _⟩
end Go.Proofs.Im
namespace Go.Im
abbrev P6:List V:= [H [117],H [112],iV 1000,iV 100,iV 1048576,iV 1073741824,iV 1073741824,iV 10000,iV 200]
end Go.Im
namespace Go.Proofs.Im
section
variable{bb:Nat}{h h' g h0:Hp}{P F I J Z:Pos->Prop}{ps pl ib ir pc im i:Pos}{cb:Cap}{fb uid only u last bare part:Bool}{v vm vl vv vw:V}{st st2:Sn}{L d:List V}{s s2 nm tx:List Nat}{w:Wds}{ks:Int×Int×List (Int×Int×Int)}{f n:Nat}
def aDd(q:Rq bb h0 Z h pc im ps ir uid w s st L vw P F J pl ib cb fb vm vl vv I)(Q:w.len=2)(ak:oL w= [[117],[112]])(aj:Il w=false):
  ∃h',atK [X pc 0,X ir 0] h=D (anV 0 [] false false false) h'/\DL bb h0 Z vw P h' pc im ps ir uid w s {st with inn:=true}:=by
 obtain⟨S,ag,c1,k1⟩:=mkW h (O (N tA true) zAn);have q1:=q.nw c1;have am:¬OfB ir 5 L h.next:=λo=>by have:=(o.from q.bd _).2;omega
 have an:¬Ft F J pc im h.next:=λo=>by have:=q.wd.lt _ o;omega
 obtain⟨r2,G,e2,c2,hN⟩:=au9 (n:=2) q1.bd q1.l3 q1.ws (by omega);have af:abO [X ir 0,Y U 2] S=D r2 G:=e2;obtain⟨v,rfl,W,t⟩:∃v,r2=.tuple (.cons v (.cons (K true) .nil))/\Ow 0 G 9 1 v 2 ([[117],[112]].map H)/\∀j,bV v=some j->S.next.nat<=j.nat:=by
  rcases hN with⟨hL,-⟩|⟨-,v,rfl,W,t⟩
  ·rw[aj]at hL;cases hL
  ·rw[Q,ak]at W;exact⟨v,by rw[decide_eq_true Q],W,t⟩
 obtain⟨B,fv,hv,kv,ao⟩:∃B fv,v=.slice B 0 2 (.un 1)/\Kn G B (O (N 9 fv) [H [117],H [112]])/\S.next.nat<=B.nat:=by
  rcases W.is with⟨h0,_⟩|⟨i,e,hb,hi,f,hg⟩
  ·omega
  ·exact⟨i,f,e,⟨hg,hi⟩,t i (by rw[e];rfl)⟩
 have aa:∀g,bD 1 v (Y U 0) g=D (X B 0) g:=λg=>by rw[hv];rfl
 have ab:∀g,bD 1 v (Y U 1) g=D (X B 1) g:=λg=>by rw[hv];rfl
 have E:Nw S G:=c2;have q2:=q1.nw E;have R1:=q2.kr.ld q2.l1;have M:=q2.wd.acc.st;obtain⟨h3,e3,c3⟩:=aEt (l:=P6) (r:=(stC st.acc ib cb vm pl).drop 9) M.1 rfl M.2;have ae:Nw G h3:=c3;obtain⟨h4,ah,c4,k4⟩:=mkW h3 (O (N 62 true) P6);have S4:=mkT 9 [H [],H [],Y U 0,Y U 0,Y U 0,Y U 0,Y U 0,Y U 0,Y U 0] ah;have c:=ae.trans c4;have U0:=k4.ld (q:=0) (x:=H [117]) rfl;have U1:=k4.ld (q:=1) (x:=H [112]) rfl;have ac:=(kv.nw c).ld (q:=0) (x:=H [117]) rfl;have ad:=(kv.nw c).ld (q:=1) (x:=H [112]) rfl;have C:=q2.nw c;have al:=(k1.nw E).nw c;obtain⟨b,a⟩:∃b,b=({st with inn:=true}:Sn):=⟨_,rfl⟩
 obtain⟨k,m⟩:∃k,k=h4.put pc (some (O (N tCn true) [K b.inn,vv,K b.only,iV b.cnt,.map im])):=⟨_,rfl⟩
 have S5:aV 1 (X pc 0) (K true) h4=D V.undef k:=by rw[m,a];exact C.wd.con.st (q:=0) (y:=K true) ⟨rfl,rfl⟩ (by simp)
 have w5:World k pc im ps b F J pl ib cb fb vm vl vv I:=by
  rw[m];exact C.wd.amF (by rw[a]) (by rw[a];exact C.wd.view) λj q=>⟨λf=>(C.wd.fj j f).1 q,C.wd.jn j q⟩
 have c5:Ch (λj=>j=pc) h4 k:=by rw[m];exact Ch.put _ _ rfl
 have q5:=C.turn w5 c5 (λj e=>.inr (.inr (.inl e))) λj f=>.inl f;have ai:=q.wd.con.2;have k5:=al.ch c5 λe=>by rw[<-e]at ai;omega
 obtain⟨z,p⟩:∃z,z=k.put h.next (some (O (N tA true) (anL 0 [] false false false))):=⟨_,rfl⟩
 have S6:aV 5 (X h.next 0) (anV 0 [] false false false) k=D V.undef z:=by rw[p];exact k5.stN rfl rfl
 have k6:Kn z h.next (O (N tA true) (anL 0 [] false false false)):=by rw[p];exact k5.put _
 have c6:Ch (λj=>j=h.next) k z:=by rw[p];exact Ch.put _ _ rfl
 have q6:=q5.atv c6 am an q.chz.next;refine⟨z,?_,by have:=q6.mk';rw[a]at this;exact this⟩;rw[aH5];simp(disch:=omega)only[vvB,seval,aIx,aqu,aBE,aBD,aBC,aBB,aBA,aBG,<-ag,af,R1,e3,S4,aa,ab,ac,ad,U0,U1,S5,aQv,S6,eq_self];simp only[bU,bT,vvB,seval,LX,k6.ldN (n:=5) rfl,bW]
def wS.cmd{g:Ln.Got}{x y:Wd}{kk:Int}(hk:g.kind=1)(p:g.words.get? 0=some x)(k:x.kind=1)(q:g.words.get? 1=some y)(l:y.kind=1)
  (r:x.text.length<=1000000/\∀c∈x.text,c<256) (t:y.text.length<=1000000/\∀c∈y.text,c<256) (a:0<=st.cnt/\st.cnt<1000000) (b:N9 pc im ps (g.words.drop 2) (foldM y.text) {st with cnt:=st.cnt+1} (anL kk tx last bare part) s2 st2)
  (j:kk=0\/kk=1) (o:tx.length<=1000/\∀c∈tx,c<256) (m:s2.length<=100000/\∀c∈s2,c<256) (C:kk=0->bare=false->∀ks,st2.vw=some ks->CanUpd st2.acc ks) (ht:(zD kk x.text tx s2 bare st2).length<=2000000) (B:part=true->kk=0->bare=false->∀ks,st2.vw=some ks->Wu st2.acc ks:=by intro e;cases e):
  wS pc im ps g st (zD kk x.text tx s2 bare st2) (if kk=1 then true else !last) (Fz kk bare st2):=
 ⟨ht,λh F J pl ib cb fb vm vl vv I P vw W E z=>aQc W E z hk p k q l r t a b j o m C B⟩
def N9.of{w:Wds}(a:nm≠atS)(c:Iq nm aaC=some (f,n,u))(j:ave n st)(b:∀(bb:Nat) (ir:Pos) (vw:V) (P:Pos->Prop),Cmd f bb pc im ps ir false w [] st vw P d s2 st2)(hl:d.length=5):N9 pc im ps w nm st d s2 st2:=
 λbb h0 Z h ir L vw P F J pl ib cb fb vm vl vv I q=>by
  obtain⟨h',e,r⟩:=run_go q a c j (b bb ir vw P) hl;exact⟨h',vw,P,w,false,e,r⟩
end
section
variable{h h' g:Hp}{P F I:Pos->Prop}{ps pl ib p cp i:Pos}{A:Acc}{cb:Cap}{fb only:Bool}{v vm vl:V}{id:Int}{k f n d:Nat}{b:Bx}
def awm(a:dV h F ps A pl ib cb fb vm vl I)(j:A.Small){w:Wr}(m:Kn h cp (O w [X ps 0]))(l:A.boxes.findIdx? (λb=>decide (b.id=id))=some d):∃h',CG [iV id,X cp 0] h=D (K false) h'/\Nw h h':=by
 have L:=m.ld (q:=0) (x:=X ps 0) rfl;obtain⟨e,e1,c⟩:=aaJ a j id;rw[l]at e1;simp only[gB]at e1;have hd:((d:Int)<0)=False:=eq_false (by omega);rw[aoG];simp only[vvB,seval,agB,YU,YT,L,e1,hd];exact⟨e,by simp only[bU,bT,vvB,seval,bW],c⟩
def asO(p:Pos)(x:V)(g:Hp):dn ql (.func (.func 102) .nil (.cons (X p 0) .nil)) [x] g=CG [x,X p 0] g:=(rfl)
def ayc(p:Pos)(x:V)(g:Hp):dn ql (.func (.func 47) (.cons (X p 0) .nil) .nil) [x] g=JZ [X p 0,x] g:=(rfl)
def aym(a:dV h F ps A pl ib cb fb vm vl I)(hA:A.Small)(r:Rws P (flat eu) 1 h v [id])(hf:A.boxes.findIdx? (λb=>decide (b.id=id))=some d):
  ∃w h',Oj [X ps 0,v] h=D (.tuple (.cons w (.cons (K true) .nil))) h'/\Rws (λj=>h.next.nat<=j.nat) (flat eu) 1 h' w [id]/\Nw h h':=by
 obtain⟨E,o,l,k1⟩:=mkW h (O (N 24 true) [X ps 0]);have M:eU 24 (X ps 0) h=D (X h.next 0) E:=by rw[o];rfl
 obtain⟨w,h2,e2,r2,t,o2⟩:=akh (r.nw (aN _) l) (by simp);have o2:=o2.resolve_left (by simp);obtain⟨G,W,o3,u⟩:=amW o2 (by simp);rw[SC ltI (by simp)]at o3;have n1:=l.next;have n2:=t.next;have n3:=u.next;have c:Nw E G:=t.then u λj hj e=>by have:=(o2.fF e).1;omega
 have s:=o3.rows (P':=λj=>h.next.nat<=j.nat) (aN _) (λ_ _ q=>q.elim) λj q _=>by omega
 have Z:=ad4 s (by simp);obtain⟨J,C,z⟩:=PO s (aN _) (λ_=>false) (by simp) (f:=.func (.func 102) .nil (.cons (X h.next 0) .nil)) (λx y g L B e=>by
  cases(show [y]= [Y U x] from e);simp at L;subst L;obtain⟨g',e6,S⟩:=awm ((a.nw (l.trans c)).nw B) hA ((k1.nw c).nw B) hf;exact⟨g',by rw[asO];exact e6,S⟩)
 have m:jb [w,.func (.func 102) .nil (.cons (X h.next 0) .nil)] G=D (K false) J:=by
  have:([id].any λ_=>false)=false:=rfl;rw[this]at C;exact C
 have Q:∀g,dZ (.func 102) [] [X h.next 0] g=D (.func (.func 102) .nil (.cons (X h.next 0) .nil)) g:=λg=>rfl;rw[aqB];simp only[vvB,seval,ajU,acn,ack,acj,aci,ach,M,e2,W,Z,Q,m];exact⟨w,J,by simp only[bU,bT,vvB,seval,bW]<;>rfl,s.nw (aN _) z,(l.trans c).trans z⟩
def dV.aG9(a:dV h F ps A pl ib cb fb vm vl I)(hk:A.boxes[k]?=some b):∀g,g.get ib=h.get ib->∀f y,(gI b)[f]?=some y->aG (X ib (k*6+f)) g=D y g:=by
 have c:=(d!.1 hk).1;obtain⟨i,q,cs,e,ex,-,-,-,ld,-⟩:=a.bxr.elt hk;obtain rfl:cs=gI b:=ex;have:=e h;rw[sZ c]at this;cases this;exact ld
def aC9(a:dV h F ps A pl ib cb fb vm vl I)(t:A.Small)(u:A.boxes.findIdx? (λb=>decide (b.id=id))=some d)(hk:A.boxes[d]?=some b)(hn:b.next<=1000000):∃h',JZ [X ps 0,iV id] h=D (K false) h'/\Nw h h':=by
 obtain⟨l,e1,j⟩:=aaJ a t id;rw[u]at e1;simp only[gB]at e1;have e:=(d!.1 hk).1;have a1:=a.nw j;have L:=a.st.ld (q:=10) (x:=.slice ib 0 A.boxes.length cb) rfl;have m:=a1.st.ld (q:=10) (x:=.slice ib 0 A.boxes.length cb) rfl;have M:=a.st.ld (q:=5) (x:=iV 1073741824) rfl;have o:=a1.st.ld (q:=5) (x:=iV 1073741824) rfl;have w:=λg=>sZ (sz:=6) (i:=ib) (c:=cb) e g;have ld:=a1.aG9 hk l rfl 4 (iV b.next) rfl;have hd:(b.next>1073741824)=False:=eq_false (by omega);have r:∀{k:Out},chk (λh=>aG (X ps 10) h) (.slice ib 0 A.boxes.length cb) k 1 [h]=k:=sN a.bxr.noF L;have s:∀{k:Out},chk (λh=>aG (X ps 5) h) (iV 1073741824) k 1 [h]=k:=sN rfl M;rw[as7];simp only[vvB,seval,aob,afk,afj,e1,m,r,w,ld,o,s,hd];exact⟨l,by simp only[bU,bT,vvB,seval,bW],j⟩
def aJH(x:V)(h:Hp):Di g! 106 x h=cO 2 x h:=kR
def ayo(a:dV h F ps A pl ib cb fb vm vl I)(hA:A.Small)(S:A.boxes.findIdx? (λb=>decide (b.id=id))=some d)(hk:A.boxes[d]?=some b)(hn:0<=b.next/\b.next<=1000000):
  ∃h',Ol [X ps 0,iV id] h=D (.agg (V.ofList (dK (id,b.next)))) h'/\dV h' F ps {A with boxes:=updB id (λb=>{b with next:=b.next+1}) A.boxes} pl ib cb fb vm vl I/\Ch (λj=>j=ib) h h':=by
 obtain⟨h1,B,L,k1⟩:=mkW h (O (N 106 true) [Y U 0,Y U 0]);have a1:=a.nw L;obtain⟨z,e2,w⟩:=aaJ a1 hA id;rw[S]at e2;simp only[gB]at e2;have a2:=a1.nw w;have t:=(d!.1 hk).1;have L1:=a1.st.ld (q:=10) (x:=.slice ib 0 A.boxes.length cb) rfl;have L2:=a2.st.ld (q:=10) (x:=.slice ib 0 A.boxes.length cb) rfl;have cL:∀{k:Out},chk (λh=>aG (X ps 10) h) (.slice ib 0 A.boxes.length cb) k 1 [h1]=k:=sN a.bxr.noF L1;have ix:=λg=>sZ (sz:=6) (i:=ib) (c:=cb) t g;have ld:=a2.aG9 hk z rfl 4 (iV b.next) rfl;obtain⟨b',o⟩:∃b':Bx,b'={b with next:=b.next+1}:=⟨_,rfl⟩
 have J:=a2.aOc hk (f:=4) (by omega) (y:=b.next+1) (b':=b') (by rw[o];rfl);obtain⟨l,r⟩:∃l,l=z.put ib (some (O (N 55 fb) ((A.boxes.set d b').map gI).flatten)):=⟨_,rfl⟩
 rw[<-r]at J;have a3:dV l F ps {A with boxes:=A.boxes.set d b'} pl ib cb fb vm vl I:=by rw[r];exact a2.aIm (by rw[List.length_set])
 have M:Ch (λj=>j=ib) z l:=by rw[r];exact Ch.put _ _ rfl
 have G:=a3.aG9 (k:=d) (b:=b') (by rw[List.getElem?_set_self t]) l rfl 4 (iV (b.next+1)) (by rw[o];rfl);have C:=a.bx.2;have Z:=(k1.nw w).ch M λe=>by rw[<-e]at C;omega
 obtain⟨m,s⟩:∃m,m=l.put h.next (some (O (N 106 true) (dK (id,b.next)))):=⟨_,rfl⟩
 have S4:aV 2 (X h.next 0) (.agg (V.ofList (dK (id,b.next)))) l=D V.undef m:=by rw[s];exact Z.stN rfl rfl
 have u:aV 2 (X h.next 0) (.agg (.cons (Y U id) (.cons (Y U b.next) .nil))) l=D V.undef m:=S4;have k4:Kn m h.next (O (N 106 true) (dK (id,b.next))):=by rw[s];exact Z.put _
 have Q:Ch (λj=>j=h.next) l m:=by rw[s];exact Ch.put _ _ rfl
 have a4:=a3.ch Q λj f e=>by have:=a.lt j f;rw[e]at this;omega
 have E:updB id (λb=>{b with next:=b.next+1}) A.boxes=A.boxes.set d b':=by
  obtain⟨x,W,e⟩:=akk (f:=λb:Bx=>{b with next:=b.next+1}) S;rw[hk]at W;cases W;rw[e,o]
 have ad:∀g,aJ .add .none (Y U b.next) (Y U 1) g=D (Y U (b.next+1)) g:=λg=>pK (by omega) (by omega);have sb:∀g,aJ .sub .none (Y U (b.next+1)) (Y U 1) g=D (Y U b.next) g:=λg=>by
  rw[LJ (by omega) (by omega)];congr 2;omega
 have NC:∀g,aS (X ib (d*6)) g=D (X ib (d*6)) g:=λg=>rfl;rw[aqE];simp(disch:=omega)only[vvB,seval,ajX,acJ,acI,acH,acG,<-B,e2,L2,cL,ix,NC,ld,ad,J,G,sb,u];refine⟨m,by simp only[bU,bT,vvB,seval,aJH,k4.ldN (n:=2) rfl,bW],by rw[E];exact a4,?_⟩;exact((L.trans w).ch.trans M λ_ _ q=>q).trans Q λj hj e=>by rw[e]at hj;omega
end
end Go.Proofs.Im
namespace Go.Im
def CS(A:Acc)(i:Int):Int:=if i=0 then A.lastId+1 else i
def aeZ(i:Int):Int:=if i=0 then 1 else 2
def apj(A:Acc)(b:Bx)(at_:Int)(t:List Nat)(ks:List (List Nat))(i:Int):Ml:={id:=A.lastId+1,thread:=CS A i,text:=t,at_:=at_,keys:=ks,mem:= [(b.id,b.next)],mod:=A.clock+1,born:=A.clock+1}
def Yz(A:Acc)(b:Bx)(at_:Int)(t:List Nat)(ks:List (List Nat))(i:Int):Acc:=
 {clock:=A.clock+1
  boxes:=kY (A.clock+1) [b.id] (updB b.id (λb=>{b with next:=b.next+1}) A.boxes)
  mails:=A.mails++ [apj A b at_ t ks i]
  ents:=A.ents++([qp (A.clock+1) b.id]++ [({mod:=A.clock+1,kind:=2,id:=A.lastId+1,how:=1}:En),{mod:=A.clock+1,kind:=3,id:=CS A i,how:=aeZ i}])
  floor:=A.floor
  lastBox:=A.lastBox
  lastId:=A.lastId+1
  octets:=A.octets+(t.length:Int)}
structure CanApp (A:Acc) (k:Nat) (b:Bx):Prop where
 small:A.Small
 logged:A.Logged
 at_:A.boxes[k]?=some b
 find:A.boxes.findIdx? (λx=>decide (x.id=b.id))=some k
 next:0<=b.next/\b.next<=900000
 clock:A.clock<900000
 lastId:0<=A.lastId/\A.lastId<900000
 ents:A.ents.length<=8000
 mails:A.mails.length<=900
 oct:0<=A.octets/\A.octets<=900000
end Go.Im
namespace Go.Proofs.Im
section
variable{h g h0:Hp}{F I l:Pos->Prop}{ps pl ib p i:Pos}{A:Acc}{cb:Cap}{fb only:Bool}{vm vl:V}{f:Nat}{b:Bx}
def ayn{t:List Nat}(ht:∀h,wP [H t,H [105,110,45,114,101,112,108,121,45,116,111]] h=D (H []) h)(x:V)(h:Hp):EO [x,H t] h=D (iV 0) h:=by
 have e2:dn ajQ (.func (.func 104) .nil .nil) [H t,H [105,110,45,114,101,112,108,121,45,116,111]] h=D (H []) h:=ht h;rw[aqD];simp only[vvB,seval,ajW,awX,acE,acD,acC,e2];simp only[bU,bT,vvB,seval,bW]
def dV.aPQ(a:dV h F ps A pl ib cb fb vm vl I){B0:Nat}(v:∀j,F j->j.nat<B0){m':Ml}{v':V}(o:dD 0 l jo 40 8 g v' (A.mails++ [m']))(c:Ch (λj=>bV vm=some j) h g)(w:∀j,bV v'=some j->h.next.nat<=j.nat)(t:∀j,l j->I j\/(B0<=j.nat/\j.nat<h.next.nat))(J:B0<=h.next.nat):
  dV (g.put ps (some (O (N 78 true) (stC {A with mails:=A.mails++ [m']} ib cb v' pl)))) (λj=>F j\/l j\/bV v'=some j) ps {A with mails:=A.mails++ [m']} pl ib cb fb v' vl l/\
   dD 0 l jo 40 8 (g.put ps (some (O (N 78 true) (stC {A with mails:=A.mails++ [m']} ib cb v' pl)))) v' (A.mails++ [m']):=by
 have ks:=a.st.ch c λe=>(a.nm ps e).1 rfl;have z:Ch (λj=>j=ps) g (g.put ps (some (O (N 78 true) (stC {A with mails:=A.mails++ [m']} ib cb v' pl)))):=Ch.put _ _ rfl;have u:Ch (λj=>bV vm=some j\/j=ps) h (g.put ps (some (O (N 78 true) (stC {A with mails:=A.mails++ [m']} ib cb v' pl)))):=(c.mono λ_ _ e=>.inl e).trans z λ_ _ e=>.inr e;have G:=v _ a.foot.1;have E:=v _ a.foot.2.1;have C:=v _ a.foot.2.2.1;have k:∀j,l j->j≠ps/\j≠pl/\j≠ib/\bV vl≠some j:=λj q=>by
  rcases t j q with q|q
  ·have:=a.inn j q;exact⟨this.2.1,this.2.2.1,this.2.2.2.1,this.2.2.2.2.2⟩
  ·exact⟨λe=>by rw[e]at q;omega,λe=>by rw[e]at q;omega,λe=>by rw[e]at q;omega,λe=>by have:=v _ (a.foot.2.2.2.2 j e);omega⟩
 have d:∀j,l j->j.nat<h.next.nat:=λj q=>(t j q).elim (λq=>a.lt j (a.inn j q).1) λq=>q.2;have n:∀j,bV v'=some j->j≠ps:=λj e m=>by have:=w j e;rw[m]at this;omega
 have o':dD 0 l jo 40 8 (g.put ps (some (O (N 78 true) (stC {A with mails:=A.mails++ [m']} ib cb v' pl)))) v' (A.mails++ [m']):=o.ch dG z (λj e m=>n j e m) λj _ q=>⟨q,(k j q).1⟩
 refine⟨⟨ks.put _,a.lg.ch u λe=>e.elim (λe=>(a.nm pl e).2.1 rfl) λe=>a.ne.1 e.symm,a.bx.ch u λe=>e.elim (λe=>(a.nm ib e).2.2.1 rfl) λe=>a.ne.2.1 e.symm,a.cap,?_,?_,a.ne,?_,a.nl,?_,?_,?_,a.enil⟩,o'⟩
 ·obtain⟨r,x,y,s⟩:=o';refine⟨r,x,y,?_⟩;rcases s.is with⟨h0,e⟩|⟨i,e,hb,hi,f,B⟩
  ·simp at h0
  ·exact .inr ⟨i,f,[],e,by simpa using B,hi⟩
 ·obtain⟨r,x,y,s⟩:=a.en;exact⟨r,x.mono λ_ _ e=>e,y,s.ch u λj hj e=>e.elim (λe=>(a.nm j e).2.2.2 hj) (a.nl j hj).1⟩
 ·intro j e;have:=w j e;exact⟨n j e,λm=>by rw[m]at this;omega,λm=>by rw[m]at this;omega,λm=>by have:=a.lt j (a.foot.2.2.2.2 j m);omega⟩
 ·intro j q;have:=k j q;exact⟨.inr (.inl q),this.1,this.2.1,this.2.2.1,λe=>by have:=w j e;have:=d j q;omega,this.2.2.2⟩
 ·exact⟨.inl a.foot.1,.inl a.foot.2.1,.inl a.foot.2.2.1,λj e=>.inr (.inr e),λj e=>.inl (a.foot.2.2.2.2 j e)⟩
 ·intro j q;have hn:=u.next;rcases q with q|q|q
  ·have:=a.lt j q;omega
  ·have:=d j q;omega
  ·exact(o'.fF q).2
def bM0{w:V}(j:w.cells= [w]/\iq w=true)(a b:Int)(t:List Nat)(c d e:Int)(h:Hp):bK zMl [(0,1,Y U a),(1,1,Y U b),(2,1,H t),(3,1,Y U c),(4,1,w),(6,1,Y U d),(7,1,Y U e)] h=D (.agg (V.ofList [Y U a,Y U b,H t,Y U c,w,.aQ,Y U d,Y U e])) h:=by
 unfold bK;simp only[Ir,j.1,j.2];rfl
def aOl:afd 40 zMl=some (O (N 40 true) zMl,λp=>X p 0):=(rfl)
def aQB(x:Int×Int):eH 106 [Y U 0,Y U 0] 1 [(0,2,.agg (V.ofList (dK x)))]=some (O (N 106 true) (dK x),λp=>.slice p 0 1 (.kn 1)):=(rfl)
def aQz(m:Ml)(vk vs:V):eH 40 zMl 1 [(0,8,.agg (V.ofList (dL m vk vs)))]=some (O (N 40 true) (dL m vk vs),λp=>.slice p 0 1 (.kn 1)):=(rfl)
end
end Go.Proofs.Im
