/- Part of the value machine, or of a walk by it: lemmas that the claim's last text uses. No conditions. -/
import Derived.Test.YtpgppmioigacoaaGreatDoorSlAS
import Derived.Test.YtpgppmioigacoaaGreatDoorSlAQ
set_option linter.unusedVariables false
set_option linter.unusedSimpArgs false
set_option linter.unnecessarySimpa false
noncomputable section
namespace Go.Im
open Go Go.Vm
def mgK(y:Mg):Int×Int×Int:=(y.uid,y.id,y.told)
def thK(x:Int×Ml):Int×Int×Int:=(x.1,x.2.id,x.2.mod)
def afa(l:List (Int×Ml)):Int:=l.foldl (fun a x=>max a x.1) 0
end Go.Im
namespace Go.Proofs.Im
open Go Go.Proofs Go.Vm Go.Im
set_option maxRecDepth 100000
variable{h h' g:Hp}{F I:Pos→Prop}{ps pl ib p pv:Pos}{A:Acc}{cb:Cap}{fb:Bool}{vm vl vv:V}{b:Nat}{l:List Mg}{box:Int}
theorem aFD{b:Bx}{p:Pos}{n:Int}{w:Wr}(k:Kn g p (.cells w [iV n])):PK [.agg (V.ofList (fQ b)),.ptr p 0] g=.ok (.bool (decide (b.id=n))) (g.new (.cells (.rw tBx true) (fQ b))):=by
 have e1:=(Kn.new g (.cells (.rw tBx true) (fQ b))).ld (q:=0) (x:=iV b.id) rfl
 have e2:=(k.add (.cells (.rw tBx true) (fQ b))).ld (q:=0) (x:=iV n) rfl
 rw [ays]
 simp only [vvB,Nat.reduceEqDiff,reduceCtorEq,↓reduceIte,agX,aiS,aiR,V.dF,e1,e2]
 simp only [aT,bD,vvB,Nat.reduceEqDiff,reduceCtorEq,↓reduceIte,bF]
theorem aDz(p:Pos)(x:V)(g:Hp):dX kD (.func (.func Un) .nil (.cons (.ptr p 0) .nil)) [x] g=PK [x,.ptr p 0] g:=(rfl)
theorem aIv(a:dL h F ps A pl ib cb fb vm vl I)(hA:A.Small){box:Int}(hs:(Wn A.mails box).Pairwise fun x y=>x.1<y.1)(h50:(Wn A.mails box).length<50)(hbx:(A.boxes.any fun b=>decide (b.id=box))=true):
  ∃pv h' vv l,acE [.ptr ps 0,iV box] h=.ok (.tuple (.cons (.ptr pv 0) (.cons (iV 0) .nil))) h'∧abl h.next.nat h' pv box (afa (Wn A.mails box)) l vv∧Nw h h'∧l.map mgK=(Wn A.mails box).map thK:=by
 obtain⟨h1,hh1,c1,k1⟩:=mkW h (.cells (.rw fB true) [iV box])
 obtain⟨r,h2,e2,r2,c2,-⟩:=Io (a.nw c1) hA
 obtain⟨h3,e3,c3⟩:=ahr (f:=.func (.func Un) .nil (.cons (.ptr h.next 0) .nil)) r2 (aQ _) (fun b:Bx=>decide (b.id=box)) (by have:=hA.boxes;omega) (fun a cs g _ c e _=>by
  obtain rfl:cs=fQ a:=e
  exact⟨_,by rw [aDz];exact aFD (k1.nw (c2.trans c)),Nw.new _ _⟩)
 have e3':mF [r,.func (.func Un) .nil (.cons (.ptr h.next 0) .nil)] h2=.ok (.bool true) h3:=by rw [←hbx];exact e3
 have F2:∀g,fK (.func Un) [] [.ptr h.next 0] g=.ok (.func (.func Un) .nil (.cons (.ptr h.next 0) .nil)) g:=fun g=>rfl
 have k3:=k1.nw (c2.trans c3)
 have L3:=k3.ld (q:=0) (x:=iV box) rfl
 obtain⟨h4,hh4,c4,k4⟩:=mkW h3 (.cells (.rw tVw true) [iV box,.aG,iV 0])
 have B4:bK [(.int .i64 0),.aG,(.int .i64 0)] [(0,1,iV box)] h3=.ok (.agg (V.ofList [iV box,.aG,iV 0])) h3:=(rfl)
 have L4:=(k3.nw c4).ld (q:=0) (x:=iV box) rfl
 have c14:Nw h h4:=((c1.trans c2).trans c3).trans c4
 obtain⟨rw',h5,e5,o5,c5⟩:=aiD (a.nw c14) hA hs h50
 have R5:=(o5.rws eH).mono (P':=fun j=>h4.next.nat≤j.nat∧j.nat<h5.next.nat) eH fun j hj q=>⟨q,hj⟩
 have hps:=a.st.2
 have n1:=c1.next
 have n2:=c2.next
 have n3:=c3.next
 have n4:=c4.next
 have n5:=c5.next
 have hpv:=k4.2
 have nn:∀g,aI .eql (.ptr 16) (.ptr ps 0) .bY g=.ok (.bool false) g:=fun g=>rfl
 rw [azD]
 suffices T:aU Tryz.prog _ (fun r h'=>∃vv l,r=.tuple (.cons (.ptr h3.next 0) (.cons (iV 0) .nil))∧abl h.next.nat h' h3.next box (afa (Wn A.mails box)) l vv∧Nw h h'∧l.map mgK=(Wn A.mails box).map thK)
   (ab7 (T.set (some (iV box)) (Pos.of 1) (T.set (some (.ptr ps 0)) (Pos.of 0) T.nil)) h) by
  obtain⟨r,h',e,vv,l,rfl,q⟩:=T
  exact⟨_,h',vv,l,e,q⟩
 simp only [vvB,Nat.reduceEqDiff,reduceCtorEq,↓reduceIte,ab7,an1,an0,anZ,anY,anX,aph,akv,←hh1,nn,e2,F2,e3',L3,B4,ahK,V.dF,←hh4,L4,e5,R5.len]
 refine Oc.then (dY (σ:=V×List Mg) (n:=(Wn A.mails box).length) (pi:=25) (pn:=24) (pc:=26) [6,23] (fun _=> [.ptr h3.next 0,rw']) (fun k s g=>abl h.next.nat g h3.next box (afa ((Wn A.mails box).take k)) s.2 s.1∧Ch (fun j=>j=h3.next∨h5.next.nat≤j.nat) h5 g∧s.2.map mgK=((Wn A.mails box).take k).map thK∧∀j,aX s.1=some j→h5.next.nat≤j.nat)
  (A:=fun fr g=>fr.get (Pos.of 6)=some (.ptr h3.next 0)∧∃vv l,abl h.next.nat g h3.next box (afa (Wn A.mails box)) l vv∧Ch (fun j=>j=h3.next∨h5.next.nat≤j.nat) h5 g∧l.map mgK=(Wn A.mails box).map thK) (B:=fun fr g=>False) (s:=(.aG,[]))
  (fun fr h _ k e1 e2=>by simp only [vvB,Nat.reduceEqDiff,reduceCtorEq,↓reduceIte,anW,e1,e2]) (fun fr h k _ e1=>by simp (disch:=omega) only [vvB,Nat.reduceEqDiff,reduceCtorEq,↓reduceIte,aiU,e1]) (by decide) (by rw [dS];omega) (qK0) (qK0) (by simp only [Fa,vvB,Nat.reduceEqDiff,reduceCtorEq,↓reduceIte,and_self])
  ⟨⟨k4.nw c5,dA.nil _ _ _ _ _ _,fun _ q=>(by cases q),.nil,fun _ q=>(by cases q),fun q=>(by cases q),⟨by omega,fun _ q=>(by cases q)⟩⟩,Ch.refl _ _,rfl,fun _ q=>(by cases q)⟩ ?_ ?_) ?_ ?_
 ·rintro k ⟨vv,l⟩ fr g hk f25 f24 fa hI
  obtain⟨f6,f23,-⟩:=fa
  obtain⟨v,c,hl,hv⟩:=hI
  obtain⟨x,hx⟩:∃x,(Wn A.mails box)[k]?=some x:=⟨_,List.getElem?_eq_getElem hk⟩
  obtain⟨i,q,cs,e1,⟨vk,vs,rfl,rk,rs⟩,-,-,-,-,e3⟩:=(R5.ch (P':=fun _=>True) eH c fun j hj q=>⟨trivial,fun e=>by rcases e with rfl|e<;>omega⟩).elt hx
  have e3':=e3 g rfl
  obtain⟨g2,hg2⟩:∃g2,g2=g.new (.cells (.rw tTh true) (thC x vk vs)):=⟨_,rfl⟩
  have S2:aO 9 (.ptr g.next 0) (.agg (V.ofList (thC x vk vs))) (g.new (.cells (.rw tTh true) zTh))=.ok V.undef g2:=by rw [hg2];exact iF (V.dO _) rfl rfl
  have c2':Nw g g2:=by rw [hg2];exact Nw.new _ _
  have k2:Kn g2 g.next (.cells (.rw tTh true) (thC x vk vs)):=by rw [hg2];exact Kn.new _ _
  have hn5:=c.next
  have hn2:=c2'.next
  have hlen:l.length=k:=by have:=congrArg List.length hl;simp at this;omega
  obtain⟨u,g3,vv',q',e6,v6,c6,hv6⟩:=aIy (P:=fun _=>True) (v.nw c2') (by omega) (by show l.length≤1000;omega) (x:=x) (vk:=vk) (vs:=vs)
  simp only [vvB,Nat.reduceEqDiff,reduceCtorEq,↓reduceIte,anU,anT,f25,f23,f6,e1,e3',S2,k2.ldN (n:=9) rfl,e6]
  refine⟨qK2 f25,qK2 f24,(vv',l++ [{uid:=x.1,id:=x.2.id,told:=x.2.mod,at_:=q'}]),by simp only [Fa,vvB,Nat.reduceEqDiff,reduceCtorEq,↓reduceIte,f6,f23,and_self],?_,?_,?_,?_⟩
  ·rw [take_snoc hx]
   have:afa ((Wn A.mails box).take k++ [x])=max (afa ((Wn A.mails box).take k)) x.1:=by simp [afa,List.foldl_append]
   rw [this]
   exact v6
  ·exact(c.trans c2' fun _ _ q=>q.elim).trans c6 fun j hj q=>q.imp id fun e=>by have:=hv j e;omega
  ·simp only [List.map_append]
   rw [hl,take_snoc hx,List.map_append];rfl
  ·intro j e;have:=hv6 j e;omega
 ·rintro⟨vv,l⟩ fr g fa hI
  obtain⟨f6,f23,-⟩:=fa
  obtain⟨v,c,hl,hv⟩:=hI
  rw [List.take_length] at v hl
  exact⟨f6,vv,l,v,c,hl⟩
 ·rintro fr g ⟨f6,vv,l,v,c,hl⟩
  simp only [vvB,Nat.reduceEqDiff,reduceCtorEq,↓reduceIte,aiT,f6]
  exact aU.ret (qT0) ⟨vv,l,rfl,v,((c14.trans c5).then c fun j hj e=>by rcases e with rfl|e<;>omega),hl⟩
 ·intro fr g q;exact q.elim
end Go.Proofs.Im

noncomputable section
namespace Go.Im
open Go Go.Vm
structure VwR (tV tM tA:TypeId) (h:Hp) (J:Pos→Prop) (pv:Pos) (box had:Int) (l:List Mg) (vv:V):Prop where
 vw:Kn h pv (.cells (.rw tV true) [iV box,vv,iV had])
 row:(l= []∧vv=.aG)∨∃i f rest,vv=.slice i 0 l.length (.un 3)∧Kn h i (.cells (.rw tM f) ((l.map mgC).flatten++rest))
 told:∀x∈l,Kn h x.at_ (.cells (.rw tA true) [iV x.told])
 nd:(l.map (·.at_)).Nodup
 sep:∀x∈l,x.at_≠pv∧aX vv≠some x.at_
 nv:aX vv≠some pv
 foot:J pv∧(∀j,aX vv=some j→J j)∧∀x∈l,J x.at_
 lt:∀j,J j→j.nat<h.next.nat
theorem VwR.rws{tV tM tA:TypeId}{h:Hp}{J:Pos→Prop}{pv:Pos}{box had:Int}{l:List Mg}{vv:V}(a:VwR tV tM tA h J pv box had l vv):Rws J (flat mgC) 3 h vv l:=by
 rcases a.row with⟨rfl,rfl⟩|⟨i,f,rest,rfl,k⟩
 ·exact Rws.aG _ _ _ _
 ·have hw:∀d∈l.map mgC,d.length=3:=fun d hd=>by obtain⟨x,_,rfl⟩:=List.mem_map.1 hd;rfl
  have hl:(l.map mgC).flatten.length=l.length*3:=by rw [jv hw,List.length_map]
  refine⟨l.map mgC,?_,hw,⟨hl,.inr ⟨i,0,_,.rw tM f,(l.map mgC).flatten++rest,rfl,k.2,by rw [k.1];rfl,fun q hq=>?_⟩⟩,fun _ _ _ _ e=>(by cases e;rfl),fun j hj=>a.foot.2.1 j hj⟩
  ·have:∀m:List Mg,All2 (flat mgC J h) m (m.map mgC):=fun m=>by
    induction m with
    |nil=>exact .nil
    |cons x m ih=>exact .cons rfl ih
   exact this l
  ·rw [Nat.zero_add,List.getElem?_append_left]
   rw [hl];exact hq
theorem VwR.ch{tV tM tA:TypeId}{h h':Hp}{J S:Pos→Prop}{pv:Pos}{box had:Int}{l:List Mg}{vv:V}(a:VwR tV tM tA h J pv box had l vv)(c:Ch S h h')(hs:∀j,J j→¬S j):VwR tV tM tA h' J pv box had l vv where
 vw:=a.vw.ch c (hs _ a.foot.1)
 row:=a.row.imp id fun⟨i,f,rest,e,k⟩=>⟨i,f,rest,e,k.ch c (hs i (a.foot.2.1 i (by rw [e];rfl)))⟩
 told:=fun x q=>(a.told x q).ch c (hs _ (a.foot.2.2 x q))
 nd:=a.nd
 sep:=a.sep
 nv:=a.nv
 foot:=a.foot
 lt:=fun j q=>Nat.lt_of_lt_of_le (a.lt j q) c.next
theorem VwG.vwr{tV tM tA:TypeId}{h:Hp}{pv:Pos}{box had:Int}{l:List Mg}{vv:V}{b:Nat}(a:VwG tV tM tA b h pv box had l vv):VwR tV tM tA h (fun j=>b≤j.nat∧j.nat<h.next.nat) pv box had l vv where
 vw:=a.vw
 row:=by
  by_cases hl:l= []
  ·subst hl
   obtain⟨css,x,hw,s⟩:=a.row
   rcases s.is with⟨_,e⟩|⟨i,e,hb,hi,f,hg⟩
   ·exact .inl ⟨rfl,e⟩
   ·cases x
    exact .inr ⟨i,f,[],e,by simpa using hg,hi⟩
  ·obtain⟨css,x,hw,s⟩:=a.row
   rcases s.is with⟨h0,e⟩|⟨i,e,hb,hi,f,hg⟩
   ·exact absurd (List.length_eq_zero_iff.1 h0) hl
   ·refine .inr ⟨i,f,[],e,?_,hi⟩
    rw [x.flat] at hg
    simpa using hg
 told:=a.told
 nd:=a.nd
 sep:=a.sep
 nv:=a.nv
 foot:=⟨⟨a.lo.1,a.vw.2⟩,fun j e=>a.row.dN e,fun x q=>⟨a.lo.2 x q,(a.told x q).2⟩⟩
 lt:=fun j q=>q.2
end Go.Im
namespace Go.Proofs.Im
open Go Go.Proofs Go.Vm Go.Im
set_option maxRecDepth 100000
variable{h h' g:Hp}{J:Pos→Prop}{pv:Pos}{A:Acc}{vv:V}{l:List Mg}{box had:Int}
abbrev VwK(h:Hp)(J:Pos→Prop)(pv:Pos)(box had:Int)(l:List Mg)(vv:V):Prop:=VwR tVw tVm tAt h J pv box had l vv
theorem ar5(a:VwK h J pv box had l vv)(hl:l.length≤1000):
  ∃r h',PI [.ptr pv 0] h=.ok r h'∧gY h.next.nat (flat iD) fB 1 h' r (l.map (·.uid))∧Nw h h':=by
 have L:=a.vw.ld (q:=1) (x:=vv) rfl
 have R:=a.rws
 rw [ayr]
 show aU Tryz.prog _ (fun r h'=>gY h.next.nat (flat iD) fB 1 h' r (l.map (·.uid))∧Nw h h') _
 simp only [vvB,Nat.reduceEqDiff,reduceCtorEq,↓reduceIte,agW,aiQ,aiP,aiO,aiN,akb,fF,L,R.len]
 refine Oc.then (dY (σ:=V) (n:=l.length) (pi:=13) (pn:=12) (pc:=14) [3,11] (fun v=> [v,vv]) (fun k v g=>Nw h g∧gY h.next.nat (flat iD) fB 1 g v ((l.map (·.uid)).take k))
  (A:=fun fr g=>∃v,fr.get (Pos.of 3)=some v∧Nw h g∧gY h.next.nat (flat iD) fB 1 g v (l.map (·.uid))) (B:=fun fr g=>False) (s:=.aG)
  (fun fr h _ k e1 e2=>by simp only [vvB,Nat.reduceEqDiff,reduceCtorEq,↓reduceIte,aiM,e1,e2]) (fun fr h k _ e1=>by simp (disch:=omega) only [vvB,Nat.reduceEqDiff,reduceCtorEq,↓reduceIte,aiJ,e1]) (by decide) (by rw [dS];omega) (qK0) (qK0) (by simp only [Fa,vvB,Nat.reduceEqDiff,reduceCtorEq,↓reduceIte,and_self]) ⟨Nw.refl _,gY.nil _ _ _ _ _⟩ ?_ ?_) ?_ ?_
 ·intro k v fr g hk f9 f8 fa hI
  obtain⟨f3,f7,-⟩:=fa
  obtain⟨c,o⟩:=hI
  obtain⟨x,hx⟩:∃x,l[k]?=some x:=⟨_,List.getElem?_eq_getElem hk⟩
  obtain⟨i,q,cs,e1,e2,-,-,-,-,e3⟩:=(R.nw (aQ _) c).elt hx
  obtain rfl:cs=mgC x:=e2
  have e3':=e3 g rfl
  obtain⟨g2,hg2⟩:∃g2,g2=g.new (.cells (.rw tVm true) (mgC x)):=⟨_,rfl⟩
  have S2:aO 3 (.ptr g.next 0) (.agg (V.ofList (mgC x))) (g.new (.cells (.rw tVm true) zVm))=.ok V.undef g2:=by rw [hg2];exact iF (V.dO _) rfl rfl
  have c2:Nw g g2:=by rw [hg2];exact Nw.new _ _
  have k2:Kn g2 g.next (.cells (.rw tVm true) (mgC x)):=by rw [hg2];exact Kn.new _ _
  have hcn:=c.next
  have hn2:=c2.next
  obtain⟨v',g4,e5,o5,c5,n5,-⟩:=(o.nw (aQ _) c2).app (bt:=8) (x:=x.uid) (cs:=iD x.uid) (P0:=fun _=>False) (aQ _) (by omega) rfl rfl (fun j _ q=>q.elim) (by simp;omega)
  have e5:bT fB 1 8 v (.slice g2.next 0 1 (.kn 1)) (g2.new (.cells (.rw fB true) [iV x.uid]))=.ok v' g4:=e5
  simp only [vvB,Nat.reduceEqDiff,reduceCtorEq,↓reduceIte,aiL,aiK,f3,f7,f9,e1,e3',S2,k2.ld (q:=0) (x:=iV x.uid) rfl,sS,e5]
  refine⟨qK2 f9,qK2 f8,v',by simp only [Fa,vvB,Nat.reduceEqDiff,reduceCtorEq,↓reduceIte,f7,and_self],?_,?_⟩
  ·exact(c.trans c2).own c5 fun j e=>(o.dN e).1
  ·rw [take_snoc (show(l.map (·.uid))[k]?=some x.uid by rw [List.getElem?_map,hx];rfl)];exact o5
 ·intro v fr g fa hI
  obtain⟨f3,f11,-⟩:=fa
  obtain⟨c,o⟩:=hI
  rw [List.take_of_length_le (by simp)] at o
  exact⟨v,f3,c,o⟩
 ·rintro fr g ⟨v,f3,c,o⟩
  simp only [vvB,Nat.reduceEqDiff,reduceCtorEq,↓reduceIte,aiI,f3]
  exact aU.ret (r:=v) (qT0) ⟨o,c⟩
 ·intro fr g q;exact q.elim
end Go.Proofs.Im

noncomputable section
namespace Go.Im
open Go Go.Vm
theorem _root_.Go.Vm.Rws.strs{P:Pos→Prop}{h:Hp}{v:V}{l:List (List Nat)}(r:Rws P (flat jH) 1 h v l):Sl h.next.nat h 1 v l.length (l.map V.str)∧jM 1 v:=by
 obtain⟨css,a,hw,s,k,p⟩:=r
 have:css.flatten=l.map V.str:=by rw [a.flat];exact aaZ l
 rw [this] at s
 exact⟨s,k⟩
abbrev jS:List Nat:= [73,78,66,79,88]
def Ny(p:List Nat):List Nat:=if foldM p=foldM jS then jS else p
def iM(l:List Bx)(p:List Nat):Option Bx:=l.find? fun b=>decide (b.name=Ny p)
structure TopB (l:List Bx):Prop where
 few:l.length≤1000
 top:∀b∈l,b.par=0
 name:∀b∈l,b.name.length≤1000000∧∀c∈b.name,c<256
 once:∀(k:Nat) (b:Bx),l[k]?=some b→l.findIdx? (fun x=>decide (x.id=b.id))=some k
end Go.Im
namespace Go.Proofs.Im
open Go Go.Proofs Go.Vm Go.Im
set_option maxRecDepth 100000
variable{h h' g:Hp}{P:Pos→Prop}{p:Pos}{A:Acc}{v:V}{l:List Bx}
theorem as7{b:Bx}{p:Pos}{n:Int}{w:Wr}(k:Kn g p (.cells w [iV n])):yZ [.agg (V.ofList (fQ b)),.ptr p 0] g=.ok (.bool (decide (b.id=n))) (g.new (.cells (.rw tBx true) (fQ b))):=by
 have e1:=(Kn.new g (.cells (.rw tBx true) (fQ b))).ld (q:=0) (x:=iV b.id) rfl
 have e2:=(k.add (.cells (.rw tBx true) (fQ b))).ld (q:=0) (x:=iV n) rfl
 rw [amb]
 simp only [vvB,Nat.reduceEqDiff,reduceCtorEq,↓reduceIte,Q8,Xe,Xd,V.dF,e1,e2]
 simp only [aT,bD,vvB,Nat.reduceEqDiff,reduceCtorEq,↓reduceIte,bF]
theorem aqi(p:Pos)(x:V)(g:Hp):dX kD (.func (.func aeC) .nil (.cons (.ptr p 0) .nil)) [x] g=yZ [x,.ptr p 0] g:=(rfl)
theorem axu(r:Rws P (flat fQ) 6 h v l)(hn:l.length≤1000)(n:Int):∃h',JF [v,iV n] h=.ok (iV (iH (l.findIdx? fun b=>decide (b.id=n)))) h'∧Nw h h':=by
 obtain⟨h1,hh1,c1,k1⟩:=mkW h (.cells (.rw fB true) [iV n])
 obtain⟨h2,e2,c2⟩:=zV (r.nw (aQ _) c1) (aQ _) (fun b=>decide (b.id=n)) (by omega) (f:=.func (.func aeC) .nil (.cons (.ptr h.next 0) .nil)) (fun b cs g _ cg e _=>by
  rw [show cs=fQ b from e,aqi,as7 (k1.nw cg)]
  exact⟨_,rfl,Nw.new _ _⟩)
 rw [apq]
 simp only [vvB,Nat.reduceEqDiff,reduceCtorEq,↓reduceIte,VU,ZM,ZL,←hh1,e2]
 exact⟨h2,by simp only [aT,bD,vvB,Nat.reduceEqDiff,reduceCtorEq,↓reduceIte,bF],c1.trans c2⟩
theorem ata{E:El (List Nat)}{el:TypeId}{b:Nat}{a:List Nat}(o:gY b E el 1 h v [a]):∃u,uX [v] h=.ok u h:=by
 have ol:=fun g=>o.len g
 rw [aaq]
 suffices T:aU Tryz.prog [] (fun u h'=>h'=h) (uQ (T.set (some v) (Pos.of 0) T.nil) h) by
  obtain⟨u,h',e,rfl⟩:=T
  exact⟨u,e⟩
 simp (disch:=omega) only [vvB,Nat.reduceEqDiff,reduceCtorEq,↓reduceIte,uQ,IL,ol,List.length_cons,List.length_nil,Nat.zero_add,show((1:Nat):Int)=1 from rfl]
 refine(dR (n:=0) (fun m fr g=>fr.get (Pos.of 2)=some (.int .i64 0)∧fr.get (Pos.of 3)=some (.int .i64 0)∧g=h) (A:=fun fr g=>g=h) (B:=fun _ _=>False) (by rw [dS];omega) ⟨qK0,qK1,rfl⟩ ?_).out ?_ ?_
 ·rintro m fr g ⟨f2,f3,rfl⟩
  simp (disch:=omega) only [vvB,Nat.reduceEqDiff,reduceCtorEq,↓reduceIte,JB,IK,f2,f3]
  exact⟨rfl,rfl⟩
 ·rintro fr g rfl
  exact aU.nor (qT0) rfl
 ·intro fr g q;exact q.elim
theorem aGs(r:Rws P (flat fQ) 6 h v l)(hT:TopB l){k:Nat}{b:Bx}(hb:l[k]?=some b):∃h',XB [v,iV b.id] h=.ok (.str b.name) h'∧Nw h h':=by
 have hk:=hT.once k b hb
 have hm:=List.mem_of_getElem? hb
 have hkl:=(List.getElem?_eq_some_iff.1 hb).1
 obtain⟨h1,e1,c1⟩:=axu r hT.few b.id
 rw [hk] at e1
 simp only [iH] at e1
 have r1:=r.nw (aQ _) c1
 obtain⟨i,q,cs,ix,ex,-,hi,-,ld,-⟩:=r1.elt hb
 obtain rfl:cs=fQ b:=ex
 have n1:=c1.next
 obtain⟨v',h2,e2,o2,c2,n2,-⟩:=(gY.nil h.next.nat (flat jH) vz 1 h1).app (bt:=16) (x:=b.name) (cs:=jH b.name) (P0:=fun _=>False) (aQ _) (by omega) rfl rfl (fun j _ q=>q.elim) (by simp)
 have e2:bT vz 1 16 .aG (.slice h1.next 0 1 (.kn 1)) (h1.new (.cells (.rw vz true) [.str b.name]))=.ok v' h2:=e2
 have c2':Nw h1 h2:=c2.mono fun _ _ e=>by cases e
 have L1:=ld h1 rfl 1 (.str b.name) rfl
 have L2:aF (.ptr i (q+2)) h2=.ok (.int .i64 0) h2:=by
  have:=ld h2 (c2'.get i hi fun q=>q) 2 (iV b.par) rfl
  rw [hT.top b hm] at this;exact this
 have c02:=c1.trans c2'
 rw [ayu]
 suffices T:aU Tryz.prog [.tmp 4] (fun r h'=>r=.str b.name∧Nw h h') (Xu (T.set (some (iV b.id)) (Pos.of 1) (T.set (some v) (Pos.of 0) T.nil)) h) by
  obtain⟨r,h',e,rfl,c⟩:=T;exact⟨h',e,c⟩
 simp only [vvB,Nat.reduceEqDiff,reduceCtorEq,↓reduceIte,Xu,ai8,ai7]
 refine Oc.then (dR (n:=0) (fun m fr g=>fr.get (Pos.of 0)=some v∧fr.get (Pos.of 1)=some (iV b.id)∧fr.get (Pos.of 5)=some .aG∧g=h) (A:=fun fr g=>fr.get (Pos.of 5)=some v'∧g=h2) (B:=fun _ _=>False) (by rw [dS];omega) ⟨qK0,qK0,qK0,rfl⟩ ?_) ?_ ?_
 ·rintro m fr g ⟨f0,f1,f5,rfl⟩
  simp (disch:=omega) only [vvB,Nat.reduceEqDiff,reduceCtorEq,↓reduceIte,akd,ai6,ai5,ai4,ai3,ai2,f0,f1,f5,e1,WO,r.len,ix,L1,qK,e2,L2]
  exact⟨rfl,qK0,rfl⟩
 ·rintro fr g ⟨f5,rfl⟩
  obtain⟨u,e3⟩:=ata o2
  obtain⟨sl,cap⟩:=(o2.rws (aQ _)).strs
  obtain⟨r4,h4,e4,rfl,c4⟩:=akC (sep:= [47]) sl cap (Nat.le_refl _) (by simp) (by simp) (by have:=(hT.name b hm).1;simp [iO];omega) (by simpa using (hT.name b hm).2) (by simp) (.inl (by simp))
  simp only [vvB,Nat.reduceEqDiff,reduceCtorEq,↓reduceIte,ai1,ai0,f5,e3,e4]
  exact aU.ret (r:=.str b.name) (qT0) ⟨rfl,c02.trans c4⟩
 ·intro fr g q;exact q.elim
end Go.Proofs.Im

noncomputable section
namespace Go.Im
open Go Go.Vm
theorem aKd{α:Type}{f:α→Bool}{l:List α}{k:Nat}{x:α}(hx:l[k]?=some x)(hno:(l.take k).find? f=none)(hf:f x=true):l.find? f=some x:=by
 have hk:=(List.getElem?_eq_some_iff.1 hx).1
 have hxe:=(List.getElem?_eq_some_iff.1 hx).2
 have:l.find? f=(l.take k++l.drop k).find? f:=by rw [List.take_append_drop]
 rw [this,List.find?_append,hno,List.drop_eq_getElem_cons hk,hxe]
 simp [hf]
end Go.Im
namespace Go.Proofs.Im
open Go Go.Proofs Go.Vm Go.Im
set_option maxRecDepth 100000
variable{h h' g:Hp}{P F I:Pos→Prop}{ps pl ib p ir:Pos}{A:Acc}{cb:Cap}{fb:Bool}{v vm vl:V}{l:List Bx}
theorem asg(r:Rws P (flat fQ) 6 h v l)(hT:TopB l){p:List Nat}(hp:p.length<1000)(h256:∀c∈p,c<256)(hne:p≠ []):
  ∃h',XC [v,.str p] h=.ok (.tuple (.cons (iV (match iM l p with|some b=>b.id|none=>0)) (.cons (.bool (iM l p).isSome) .nil))) h'∧Nw h h':=by
 obtain⟨h1,e1,c1⟩:=Zg h (s:=p) (by omega) h256
 obtain⟨h2,e2,c2⟩:=Zg h1 (s:=jS) (by decide) (by decide)
 have c02:Nw h h2:=Nw.trans c1 c2
 obtain⟨q,hq⟩:∃q,q=Ny p:=⟨_,rfl⟩
 have hqn:q≠ []:=by
  rw [hq];unfold Ny;split
  ·simp
  ·exact hne
 have hfew:=hT.few
 rw [ayv]
 suffices T:aU Tryz.prog [.tmp 4,.tmp 5] (fun r h'=>r=.tuple (.cons (iV (match iM l p with|some b=>b.id|none=>0)) (.cons (.bool (iM l p).isSome) .nil))∧Nw h h') (PD (T.set (some (.str p)) (Pos.of 1) (T.set (some v) (Pos.of 0) T.nil)) h) by
  obtain⟨r,h',e,rfl,c⟩:=T;exact⟨h',e,c⟩
 have hbn:iM l p=l.find? fun b=>decide (b.name=q):=by rw [hq];rfl
 have main:∀fr:F,fr.get (Pos.of 0)=some v→fr.get (Pos.of 1)=some (.str q)→aU Tryz.prog [.tmp 4,.tmp 5] (fun r h'=>r=.tuple (.cons (iV (match iM l p with|some b=>b.id|none=>0)) (.cons (.bool (iM l p).isSome) .nil))∧Nw h h')
   (nC (nC (X8 fr h2) (bP 0 (dI ake lf))) (aB X4 Out.ret)):=by
  intro fr f0 f1
  simp only [vvB,Nat.reduceEqDiff,reduceCtorEq,↓reduceIte,X8,f0,r.len]
  refine Oc.then (dY (σ:=Unit) (n:=l.length) (pi:=14) (pn:=13) (pc:=15) [0,1,12] (fun _=> [v,.str q,v]) (fun k _ g=>Nw h2 g∧(l.take k).find? (fun b=>decide (b.name=q))=none)
   (A:=fun fr g=>Nw h2 g∧l.find? (fun b=>decide (b.name=q))=none) (B:=fun fr g=>∃b,fr.get (Pos.of 4)=some (iV b.id)∧fr.get (Pos.of 5)=some (.bool true)∧Nw h2 g∧l.find? (fun b=>decide (b.name=q))=some b) (s:=())
   (fun fr h _ k e1 e2=>by simp only [vvB,Nat.reduceEqDiff,reduceCtorEq,↓reduceIte,ajb,e1,e2]) (fun fr h k _ e1=>by simp (disch:=omega) only [vvB,Nat.reduceEqDiff,reduceCtorEq,↓reduceIte,ai9,e1]) (by decide) (by rw [dS];omega) (qK0) (qK0) (by simp only [Fa,vvB,Nat.reduceEqDiff,reduceCtorEq,↓reduceIte,f0,f1,and_self]) ⟨Nw.refl _,by simp⟩ ?_ ?_) ?_ ?_
  ·intro k _ fr g hk f14 f13 fa hI
   obtain⟨f0,f1,f12,-⟩:=fa
   obtain⟨c,hno⟩:=hI
   obtain⟨x,hx⟩:∃x,l[k]?=some x:=⟨_,List.getElem?_eq_getElem hk⟩
   have rg:=r.nw (aQ _) (c02.trans c)
   obtain⟨i,o,cs,ix,ex,-,-,-,-,ln⟩:=rg.elt hx
   obtain rfl:cs=fQ x:=ex
   have ln':=ln g rfl
   obtain⟨g2,hg2⟩:∃g2,g2=g.new (.cells (.rw tBx true) (fQ x)):=⟨_,rfl⟩
   have S2:aO 6 (.ptr g.next 0) (.agg (V.ofList (fQ x))) (g.new (.cells (.rw tBx true) [(.int .i64 0),(.str []),(.int .i64 0),(.int .i64 0),(.int .i64 0),(.int .i64 0)]))=.ok V.undef g2:=by rw [hg2];exact iF (V.dO _) rfl rfl
   have cg:Nw g g2:=by rw [hg2];exact Nw.new _ _
   have k2:Kn g2 g.next (.cells (.rw tBx true) (fQ x)):=by rw [hg2];exact Kn.new _ _
   obtain⟨g3,e3,c3⟩:=aGs (rg.nw (aQ _) cg) hT hx
   have L2:=k2.ld (q:=0) (x:=iV x.id) rfl
   have L3:=(k2.nw c3).ld (q:=0) (x:=iV x.id) rfl
   have hq1:(q= [])=False:=eq_false hqn
   by_cases hn:x.name=q
   ·have hn':(x.name=q)=True:=eq_true hn
    simp only [vvB,Nat.reduceEqDiff,reduceCtorEq,↓reduceIte,X7,X6,aja,f0,f1,f12,f14,ix,ln',S2,L2,L3,e3,hq1,hn']
    exact⟨x,qK0,qK0,(c.trans cg).trans c3,aKd hx hno (decide_eq_true hn)⟩
   ·have hn':(x.name=q)=False:=eq_false hn
    simp only [vvB,Nat.reduceEqDiff,reduceCtorEq,↓reduceIte,X7,X6,f0,f1,f12,f14,ix,ln',S2,L2,e3,hq1,hn']
    refine⟨qK2 f14,qK2 f13,(),by simp only [Fa,vvB,Nat.reduceEqDiff,reduceCtorEq,↓reduceIte,f0,f1,f12,and_self],(c.trans cg).trans c3,?_⟩
    rw [Go.Vm.take_snoc hx,List.find?_append,hno]
    simp [hn]
  ·intro _ fr g fa hI
   obtain⟨c,hno⟩:=hI
   rw [List.take_length] at hno
   exact⟨c,hno⟩
  ·rintro fr g ⟨c,hno⟩
   simp only [vvB,Nat.reduceEqDiff,reduceCtorEq,↓reduceIte,X4]
   refine aU.ret (qT0) ⟨?_,c02.trans c⟩
   rw [hbn,hno];rfl
  ·rintro fr g ⟨b,f4,f5,c,hb⟩
   refine aU.ret (by simp only [bD,vvB,Nat.reduceEqDiff,reduceCtorEq,↓reduceIte,f4,f5,bF]<;>rfl) ⟨?_,c02.trans c⟩
   rw [hbn,hb];rfl
 by_cases hf:foldM p=foldM jS
 ·have hf':(foldM p=foldM jS)=True:=eq_true hf
  have hqi:q=jS:=by rw [hq];unfold Ny;rw [if_pos hf]
  simp only [vvB,Nat.reduceEqDiff,reduceCtorEq,↓reduceIte,PD,Yt,X9,ajc,e1,e2,hf']
  exact main _ (qK0) (by simp only [vvB,Nat.reduceEqDiff,reduceCtorEq,↓reduceIte];rw [hqi])
 ·have hf':(foldM p=foldM jS)=False:=eq_false hf
  have hqi:q=p:=by rw [hq];unfold Ny;rw [if_neg hf]
  simp only [vvB,Nat.reduceEqDiff,reduceCtorEq,↓reduceIte,PD,Yt,X9,e1,e2,hf']
  exact main _ (qK0) (by simp only [vvB,Nat.reduceEqDiff,reduceCtorEq,↓reduceIte];rw [hqi])
abbrev Zf:List Nat:= [105,110,66,79,88]
abbrev nY:List Nat:= [110,111,110,101]
theorem aaI{A:List V→Option V}{F:Fun}{args:List V}(e:A args=none)(h:Hp):tH A F args h=F args h:=by unfold tH;rw [e]
theorem aKC(h:Hp):zB [.str jS] h=.ok (.tuple (.cons (.str jS) (.cons (.int .i64 0) .nil))) h:=(aaI (A:=QC nY _) (args:= [.str jS]) rfl h).trans ((aaI (A:=QC Zf _) (args:= [.str jS]) rfl h).trans (AX (ah0 _ _) h))
theorem aIz(h:Hp):zB [.str Zf] h=.ok (.tuple (.cons (.str Zf) (.cons (.int .i64 0) .nil))) h:=(aaI (A:=QC nY _) (args:= [.str Zf]) rfl h).trans (AX (ah0 _ _) h)
theorem aN0(h:Hp):zB [.str nY] h=.ok (.tuple (.cons (.str nY) (.cons (.int .i64 0) .nil))) h:=AX (ah0 _ _) h
def Nm(nm:List Nat):Prop:=nm=jS∨nm=Zf
theorem Nm.uv{nm:List Nat}(n:Nm nm)(h:Hp):zB [.str nm] h=.ok (.tuple (.cons (.str nm) (.cons (.int .i64 0) .nil))) h:=by
 rcases n with rfl|rfl
 ·exact aKC h
 ·exact aIz h
theorem Nm.ok{nm:List Nat}(n:Nm nm):nm.length<1000∧(∀c∈nm,c<256)∧nm≠ []:=by rcases n with rfl|rfl<;>decide
theorem Nm.named{nm:List Nat}(n:Nm nm)(l:List Bx):iM l nm=iM l jS:=by
 rcases n with rfl|rfl
 ·rfl
 ·unfold iM;rw [show Ny Zf=Ny jS by decide]
theorem WU{n:Nat}(hn:n<100)(h:Hp):lK [.int .i64 (n:Int)] h=.ok (.str (eP n)) h:=AX (aqp hn) h
theorem aqe{n:Int}(h0:0≤n)(hn:n<100)(h:Hp):lK [.int .i64 n] h=.ok (.str (eP n.toNat)) h:=by
 have:=WU (n:=n.toNat) (by omega) h
 rwa [Int.toNat_of_nonneg h0] at this
theorem aGz(a:dL h F ps A pl ib cb fb vm vl I)(hA:A.Small)(hT:TopB A.boxes){w:Wr}{L:List V}(kr:Kn h ir (.cells w L))(hL:L[1]?=some (.ptr ps 0)){b:Bx}{nm:List Nat}(hN:Nm nm)(hb:iM A.boxes jS=some b):
  ∃h',PX [.ptr ir 0,.str nm] h=.ok (.tuple (.cons (iV b.id) (.cons (iV 0) .nil))) h'∧Nw h h':=by
 have L1:=kr.ld hL
 obtain⟨r,h1,e1,r1,c1,-⟩:=Io a hA
 obtain⟨h2,e2,c2⟩:=asg r1 hT (p:=nm) hN.ok.1 hN.ok.2.1 hN.ok.2.2
 rw [hN.named,hb] at e2
 simp only [Option.isSome_some] at e2
 rw [ahn]
 simp (disch:=omega) only [vvB,Nat.reduceEqDiff,reduceCtorEq,↓reduceIte,Xx,YC,YB,YA,Yz,Yy,ajF,hN.uv,L1,e1,e2]
 exact⟨h2,by simp only [aT,bD,vvB,Nat.reduceEqDiff,reduceCtorEq,↓reduceIte,bF]<;>rfl,c1.trans c2⟩
theorem azo(a:dL h F ps A pl ib cb fb vm vl I)(hA:A.Small)(hT:TopB A.boxes){w:Wr}{L:List V}(kr:Kn h ir (.cells w L))(hL:L[1]?=some (.ptr ps 0))(hb:iM A.boxes nY=none):
  ∃h',PX [.ptr ir 0,.str nY] h=.ok (.tuple (.cons (iV 0) (.cons (iV 6) .nil))) h'∧Nw h h':=by
 have L1:=kr.ld hL
 obtain⟨r,h1,e1,r1,c1,-⟩:=Io a hA
 obtain⟨h2,e2,c2⟩:=asg r1 hT (p:=nY) (by decide) (by decide) (by decide)
 rw [hb] at e2
 simp only [Option.isSome_none] at e2
 rw [ahn]
 simp (disch:=omega) only [vvB,Nat.reduceEqDiff,reduceCtorEq,↓reduceIte,Xx,YC,YB,YA,Yz,Yy,ajG,aN0,L1,e1,e2]
 exact⟨h2,by simp only [aT,bD,vvB,Nat.reduceEqDiff,reduceCtorEq,↓reduceIte,bF]<;>rfl,c1.trans c2⟩
theorem aGB{b:Bx}{p:Pos}{n:Int}{w:Wr}(k:Kn g p (.cells w [iV n])):PZ [.agg (V.ofList (fQ b)),.ptr p 0] g=.ok (.bool (decide (b.id=n))) (g.new (.cells (.rw tBx true) (fQ b))):=by
 have e1:=(Kn.new g (.cells (.rw tBx true) (fQ b))).ld (q:=0) (x:=iV b.id) rfl
 have e2:=(k.add (.cells (.rw tBx true) (fQ b))).ld (q:=0) (x:=iV n) rfl
 rw [ayF]
 simp only [vvB,Nat.reduceEqDiff,reduceCtorEq,↓reduceIte,ag7,ajR,ajQ,V.dF,e1,e2]
 simp only [aT,bD,vvB,Nat.reduceEqDiff,reduceCtorEq,↓reduceIte,bF]
theorem aDC(p:Pos)(x:V)(g:Hp):dX kD (.func (.func aug) .nil (.cons (.ptr p 0) .nil)) [x] g=PZ [x,.ptr p 0] g:=(rfl)
theorem aKn(x:V)(h:Hp):vT Tryz.prog tBx x h=bW 6 x h:=by kernel_rfl
theorem aIO(a:dL h F ps A pl ib cb fb vm vl I)(hA:A.Small)(hT:TopB A.boxes){w:Wr}{L:List V}(kr:Kn h ir (.cells w L))(hL:L[1]?=some (.ptr ps 0)){k:Nat}{b:Bx}(hb:A.boxes[k]?=some b):
  ∃h',acO [.ptr ir 0,iV b.id] h=.ok (.agg (V.ofList (fQ b))) h'∧Nw h h':=by
 have hk:=hT.once k b hb
 obtain⟨h1,hh1,c1,k1⟩:=mkW h (.cells (.rw fB true) [iV b.id])
 obtain⟨h2,hh2,c2,k2⟩:=mkW h1 (.cells (.rw tBx true) [(.int .i64 0),(.str []),(.int .i64 0),(.int .i64 0),(.int .i64 0),(.int .i64 0)])
 have c02:=c1.trans c2
 have L1:=(kr.nw c02).ld hL
 obtain⟨r,h3,e3,r3,c3,-⟩:=Io (a.nw c02) hA
 obtain⟨h4,e4,c4⟩:=zV r3 (aQ _) (fun x=>decide (x.id=b.id)) (by have:=hA.boxes;omega) (f:=.func (.func aug) .nil (.cons (.ptr h.next 0) .nil)) (fun x cs g _ cg e _=>by
  rw [show cs=fQ x from e,aDC,aGB (((k1.nw c2).nw c3).nw cg)]
  exact⟨_,rfl,Nw.new _ _⟩)
 rw [hk] at e4
 simp only [iH] at e4
 obtain⟨i,o,cs,ix,ex,-,-,-,-,ln⟩:=(r3.nw (aQ _) c4).elt hb
 obtain rfl:cs=fQ b:=ex
 have ln':=ln h4 rfl
 have k4:=(k2.nw c3).nw c4
 obtain⟨h5,hh5⟩:∃h5,h5=h4.put h1.next (some (.cells (.rw tBx true) (fQ b))):=⟨_,rfl⟩
 have S5:aO 6 (.ptr h1.next 0) (.agg (V.ofList (fQ b))) h4=.ok V.undef h5:=by rw [hh5];exact k4.stN rfl rfl
 have k5:Kn h5 h1.next (.cells (.rw tBx true) (fQ b)):=by rw [hh5];exact k4.put _
 have n1:=c1.next
 have c5:Nw h h5:=by rw [hh5];exact((c02.trans c3).trans c4).put (by omega) _
 rw [azR]
 simp only [vvB,Nat.reduceEqDiff,reduceCtorEq,↓reduceIte,al3,aoV,aoU,aoT,←hh1,←hh2,L1,e3,e4,ix,ln',S5]
 exact⟨h5,by simp only [aT,bD,vvB,Nat.reduceEqDiff,reduceCtorEq,↓reduceIte,aKn,k5.ldN (n:=6) rfl,bF],c5⟩
end Go.Proofs.Im

noncomputable section
namespace Go.Ln
open Go Go.Vm Go.Proofs.Im
set_option maxRecDepth 100000
def kK:Wds→List (List Nat)
 | .nil=> []
 | .cons _ t _ r=>t::kK r
def xH:Wds→Bool
 | .nil=>false
 | .cons k _ _ r=>decide (k=3)||xH r
theorem drop_zero:∀w:Wds,w.drop 0=w
 | .nil=>rfl
 | .cons _ _ _ _=>rfl
theorem Si:∀w:Wds,(kK w).length=w.len
 | .nil=>rfl
 | .cons _ _ _ r=>by simp [kK,Wds.len,Si r]
theorem avN:∀{w:Wds} {k:Nat} {x:Wd},w.get? k=some x→w.drop k=.cons x.kind x.text x.kids (w.drop (k+1))
 | .nil,_,_,e=>by cases e
 | .cons k t ks r,0,x,e=>by cases e;simp [Wds.drop]
 | .cons k t ks r,n+1,x,e=>by simp only [Wds.drop];exact avN (w:=r) e
theorem avM:∀{w:Wds} {k:Nat},w.len≤k→w.drop k=.nil
 | .nil,0,_=>rfl
 | .nil,k+1,_=>rfl
 | .cons _ _ _ _,0,h=>by simp [Wds.len] at h
 | .cons _ _ _ r,k+1,h=>by simp only [Wds.drop];exact avM (by simp [Wds.len] at h;omega)
end Go.Ln
namespace Go.Vm
theorem ahH(t:TypeId)(z:List V)(h:Hp):fC t z h=.ok (.ptr h.next 0) (h.new (.cells (.rw t true) z)):=(rfl)
theorem auk{h:Hp}{i:Pos}{t:TypeId}{f:Bool}{x y z a b c:V}(hg:h.get i=some (.cells (.rw t f) [x,y,z])):aO 3 (.ptr i 0) (.agg (.cons a (.cons b (.cons c .nil)))) h=.ok V.undef (h.put i (some (.cells (.rw t f) [a,b,c]))):=by
 rw [qm hg rfl rfl]
 rfl
theorem aDb{h:Hp}{i:Pos}{wr:Wr}{l:List V}{q:Nat}{v:V}(hg:h.get i=some (.cells wr l))(hq:l[q]?=some v):aF (.ptr i q) h=.ok v h:=by rw [gy hg,hq]
end Go.Vm
namespace Go.Proofs.Im
open Go Go.Proofs Go.Vm Go.Ln
set_option maxRecDepth 100000
theorem arD(t:TypeId)(h:Hp):fC t [.int .i64 0,.str [],.aG] h=.ok (.ptr h.next 0) (h.new (.cells (.rw t true) [.int .i64 0,.str [],.aG])):=(rfl)
theorem WS.atN{P:Pos→Prop}{h:Hp}{v:V}{ws:Wds}(t:WS P h v ws){k:Nat}{w:Wd}(e:ws.get? k=some w):
  ∃j q vk,(∀h',bU 3 v (.int .i64 (k:Int)) h'=.ok (.ptr j q) h')∧bW 3 (.ptr j q) h=.ok (.agg (.cons (.int .i64 w.kind) (.cons (.str w.text) (.cons vk .nil)))) h:=by
 obtain⟨cs,o,-,i,x⟩:=t
 have hk:=Wds.TV e
 obtain⟨c0,c1,vk,c2,w1⟩:=WAt.get x e
 obtain⟨j,q,e1,-,-,e2⟩:=o.atN hk
 refine⟨j,q,vk,e1,?_⟩
 rw [e2 h rfl]
 obtain⟨l0,x0⟩:=List.getElem?_eq_some_iff.1 c0
 obtain⟨l1,x1⟩:=List.getElem?_eq_some_iff.1 c1
 obtain⟨l2,x2⟩:=List.getElem?_eq_some_iff.1 c2
 rw [List.drop_eq_getElem_cons l0,List.drop_eq_getElem_cons l1,List.drop_eq_getElem_cons l2,x0,x1,x2]
 rfl
def aGw(w:Wds)(n:Nat)(h:Hp)(r:V)(h':Hp):Prop:=
 Ch (fun _=>False) h h'∧((xH w=true∧r=.tuple (.cons .aG (.cons (.bool false) .nil)))∨
  (xH w=false∧∃v,r=.tuple (.cons v (.cons (.bool (decide (w.len=n))) .nil))∧Ow 0 h' 9 1 v w.len ((kK w).map V.str)∧∀j,aX v=some j→h.next.nat≤j.nat))
theorem akx{P:Pos→Prop}{b:Nat}{h:Hp}{i:Pos}{t:TypeId}{L:List V}{s:List Nat}{vw:V}{w:Wds}{n:Nat}(d:Bd b h i 5 t L s)(h3:L[3]?=some vw)(tw:WS P h vw w)(hl:w.len≤1000000):
  ∃r h',XJ [.ptr i 0,.int .i64 (n:Int)] h=.ok r h'∧aGw w n h r h':=by
 rw [aI7]
 show aU Tryz.prog _ (aGw w n h) _
 have R3:aF (.ptr i 3) h=.ok vw h:=aDb d.get h3
 simp (disch:=omega) only [vvB,Nat.reduceEqDiff,reduceCtorEq,↓reduceIte,aDX,aCc,aCb,aCa,R3,WS.len tw]
 refine Oc.then (dR (n:=w.len) (fun m fr g=>∃(k:Nat) (vo:V),fr.get (Pos.of 1)=some (.int .i64 (n:Int))∧fr.get (Pos.of 6)=some vo∧fr.get (Pos.of 12)=some vw∧fr.get (Pos.of 13)=some (.int .i64 (w.len:Int))∧fr.get (Pos.of 14)=some (.int .i64 (k:Int))∧
   k+m=w.len∧Ow 0 g 9 1 vo k (((kK w).take k).map V.str)∧(∀j,aX vo=some j→h.next.nat≤j.nat)∧xH w=xH (w.drop k)∧kK w=(kK w).take k++kK (w.drop k)∧Ch (fun _=>False) h g)
  (A:=fun fr g=>∃vo,fr.get (Pos.of 1)=some (.int .i64 (n:Int))∧fr.get (Pos.of 6)=some vo∧xH w=false∧Ow 0 g 9 1 vo w.len ((kK w).map V.str)∧(∀j,aX vo=some j→h.next.nat≤j.nat)∧Ch (fun _=>False) h g)
  (B:=fun fr g=>fr.get (Pos.of 4)=some .aG∧fr.get (Pos.of 5)=some (.bool false)∧xH w=true∧Ch (fun _=>False) h g) (by rw [dS];omega) ?_ ?_) ?_ ?_
 ·exact⟨0,.aG,qK0,qK0,qK0,qK0,qK1,by omega,by simpa using Ow.nil 0 h 9 1,fun j q=>(by cases q),by rw [drop_zero],by rw [drop_zero];rfl,Ch.refl _ _⟩
 ·rintro m fr g ⟨k,vo,f1,f6,f12,f13,f14,hk,ow,hid,hL,hT,chg⟩
  by_cases hz:m=0
  ·have hkk:k=w.len:=by omega
   subst hkk
   rw [avM (Nat.le_refl _)] at hL
   rw [←Si w,List.take_length,Si w] at ow
   simp (disch:=omega) only [vvB,Nat.reduceEqDiff,reduceCtorEq,↓reduceIte,ah9,ah7,f13,f14]
   exact⟨rfl,vo,qK2 f1,qK2 f6,hL,ow,hid,chg⟩
  ·have hlt:k<w.len:=by omega
   obtain⟨x,hx⟩:=Wds.aqa hlt
   have twg:WS P g vw w:=tw.ch chg fun j _ q=>⟨q,fun q=>q⟩
   obtain⟨j,q,vk,i1,i2⟩:=WS.atN twg hx
   have hd:=avN hx
   obtain⟨g2,hg2⟩:∃g2,g2=(g.new (.cells (.rw aHh true) [.int .i64 0,.str [],.aG])).put g.next (some (.cells (.rw aHh true) [.int .i64 x.kind,.str x.text,vk])):=⟨_,rfl⟩
   have c2:Ch (fun _=>False) g g2:=by rw [hg2];exact TW _ _ _
   have w2:g2.get g.next=some (.cells (.rw aHh true) [.int .i64 x.kind,.str x.text,vk]):=by rw [hg2];exact dJ _ _ _
   have K0:aF (.ptr g.next 0) g2=.ok (.int .i64 x.kind) g2:=aDb w2 rfl
   have K1:aF (.ptr g.next 1) g2=.ok (.str x.text) g2:=aDb w2 rfl
   rw [hd] at hL hT
   simp only [xH] at hL
   simp only [kK] at hT
   have htl:((kK w).take k).length=k:=by rw [List.length_take,Si];omega
   have htk:(kK w).take (k+1)=(kK w).take k++ [x.text]:=by
    have:(kK w)[k]?=some x.text:=by
     rw [hT,List.getElem?_append_right (by omega),htl,Nat.sub_self];rfl
    rw [List.take_add_one,this];rfl
   by_cases h3k:x.kind=3
   ·have K0':aF (.ptr g.next 0) g2=.ok (.int .i64 3) g2:=by rw [K0,h3k]
    simp (disch:=omega) only [vvB,Nat.reduceEqDiff,reduceCtorEq,↓reduceIte,ah9,ah7,aqP,aqO,aB9,f12,f13,f14,i1,i2,arD,auk (dD _ _),←hg2,K0',Int.reduceEq]
    refine⟨qK0,qK0,by rw [hL,h3k];rfl,chg.trans c2 fun _ _ q=>q⟩
   ·have o2:=ow.ch c2 fun _ _ q=>q
    obtain⟨v',g3,e3,rfl,o3,c3,n3⟩:=zq (bt:=16) (new:= [.str x.text]) o2 rfl (by omega)
    simp (disch:=omega) only [vvB,Nat.reduceEqDiff,reduceCtorEq,↓reduceIte,ah9,ah7,aqP,aqO,aB8,aB7,f1,f6,f12,f13,f14,i1,i2,arD,auk (dD _ _),←hg2,K0,K1,h3k,qK,e3]
    have c23:Ch (fun _=>False) h g3:=by
     have ca:=chg.trans c2 fun _ _ q=>q
     exact ca.trans c3 fun j hj q=>by have:=hid j q;omega
    exact⟨m - 1,by omega,k+1,.slice g2.next.succ 0 (k+1) (.un 1),qK2 f1,qK0,qK2 f12,qK2 f13,qK1,by omega,by rw [htk,List.map_append];exact o3,
     fun j q=>by cases q;have:=chg.next;have:=c2.next;rw [Pos.eY];omega,by rw [hL,decide_eq_false h3k,Bool.false_or],by rw [htk];rw [List.append_assoc];exact hT,c23⟩
 ·rintro fr g ⟨vo,f1,f6,hno,ow,hid,chg⟩
  have L0:aY 2 vo g=.ok (.int .i64 (w.len:Int)) g:=ow.sl.length
  have hd:decide ((w.len:Int)=(n:Int))=decide (w.len=n):=decide_eq_decide.2 (by omega)
  simp (disch:=omega) only [vvB,Nat.reduceEqDiff,reduceCtorEq,↓reduceIte,aB6,f1,f6,L0,hd]
  exact aU.ret (qT0) ⟨chg,.inr ⟨hno,vo,rfl,ow,hid⟩⟩
 ·rintro fr g ⟨f4,f5,hl,chg⟩
  exact aU.ret (by simp only [bD,vvB,Nat.reduceEqDiff,reduceCtorEq,↓reduceIte,f4,f5,bF];rfl) ⟨chg,.inl ⟨hl,rfl⟩⟩
end Go.Proofs.Im

noncomputable section
namespace Go.Im
open Go Go.Vm Go.Ln
structure Sn where
 acc:Acc
 inn:Bool
 only:Bool
 cnt:Int
 vw:Option (Int×Int×List (Int×Int×Int))
abbrev anL(k:Int)(t:List Nat)(last bare part:Bool):List V:= [iV k,.str t,.bool last,.bool bare,.bool part]
abbrev anV(k:Int)(t:List Nat)(last bare part:Bool):V:=.agg (V.ofList (anL k t last bare part))
abbrev zAn:List V:= [.int .i64 0,.str [],.bool false,.bool false,.bool false]
theorem aQf(h:Hp):bK zAn [] h=.ok (anV 0 [] false false false) h:=(rfl)
theorem aQe(k:Int)(s:List Nat)(h:Hp):bK zAn [(0,1,.int .i64 k),(1,1,.str s)] h=.ok (anV k s false false false) h:=(rfl)
theorem aNU(s:List Nat)(h:Hp):bK zAn [(1,1,.str s),(3,1,.bool true)] h=.ok (anV 0 s false true false) h:=(rfl)
end Go.Im
namespace Go.Proofs.Im
open Go Go.Proofs Go.Vm Go.Ln Go.Im
set_option maxRecDepth 100000
variable{bb:Nat}{h h' h0:Hp}{P F I J Z S:Pos→Prop}{ps pl ib p pv ir pc im:Pos}{cb:Cap}{fb uid:Bool}{vm vl vv vw:V}{st st':Sn}{L:List V}{s:List Nat}{w:Wds}
theorem qR(x:V)(h:Hp):vT Tryz.prog tA x h=bW 5 x h:=by kernel_rfl
def abd:List (List Nat×Nat×Nat×Bool):= [
 ([99,97,112,97,98,105,108,105,116,121],aNj,0,false),
 ([110,111,111,112],auh,0,false),
 ([108,111,103,111,117,116],aNi,0,false),
 ([108,111,103,105,110],aHj,1,false),
 ([115,101,108,101,99,116],Uo,2,false),
 ([101,120,97,109,105,110,101],Nr,2,false),
 ([99,114,101,97,116,101],amu,2,false),
 ([100,101,108,101,116,101],aue,2,false),
 ([114,101,110,97,109,101],ams,2,false),
 ([108,105,115,116],aud,2,false),
 ([115,116,97,116,117,115],amq,2,false),
 ([97,112,112,101,110,100],amv,2,false),
 ([99,104,101,99,107],auh,3,false),
 ([99,108,111,115,101],arq,3,false),
 ([101,120,112,117,110,103,101],ais,3,true),
 ([115,101,97,114,99,104],amr,3,true),
 ([102,101,116,99,104],arp,3,true),
 ([115,116,111,114,101],aro,3,true),
 ([99,111,112,121],auf,3,true),
 ([109,111,118,101],auc,3,true)]
def aDy(pc:Pos)(c:Nat×Nat×Bool):V:=.agg (.cons (.func (.func c.1) (.cons (.ptr pc 0) .nil) .nil) (.cons (.int .i64 (c.2.1:Int)) (.cons (.bool c.2.2) .nil)))
def gQ(pc:Pos):List (V×V):=abd.map fun c=>(V.str c.1,aDy pc c.2)
def VwO(h:Hp)(J:Pos→Prop)(vv:V):Option (Int×Int×List (Int×Int×Int))→Prop
 |none=>vv=.bY∧∀j,¬J j
 |some x=>∃pv vw m,vv=.ptr pv 0∧VwK h J pv x.1 x.2.1 m vw∧m.map mgK=x.2.2
theorem VwO.ch{o:Option (Int×Int×List (Int×Int×Int))}(x:VwO h J vv o)(c:Ch S h h')(hs:∀j,J j→¬S j):VwO h' J vv o:=by
 cases o with
 |none=>exact x
 |some o=>obtain⟨pv,vw,m,e,k,hm⟩:=x;exact⟨pv,vw,m,e,k.ch c hs,hm⟩
theorem VwO.lt{o:Option (Int×Int×List (Int×Int×Int))}(x:VwO h J vv o):∀j,J j→j.nat<h.next.nat:=by
 cases o with
 |none=>exact fun j q=>(x.2 j q).elim
 |some o=>obtain⟨pv,vw,m,e,k,hm⟩:=x;exact k.lt
abbrev Ft(F J:Pos→Prop)(pc im:Pos):Pos→Prop:=fun j=>F j∨J j∨j=pc∨j=im
structure World (h:Hp) (pc im ps:Pos) (st:Sn) (F J:Pos→Prop) (pl ib:Pos) (cb:Cap) (fb:Bool) (vm vl vv:V) (I:Pos→Prop):Prop where
 acc:dL h F ps st.acc pl ib cb fb vm vl I
 con:Kn h pc (.cells (.rw tCn true) [.bool st.inn,vv,.bool st.only,iV st.cnt,.map im])
 map:Kn h im (.map (gQ pc))
 view:VwO h J vv st.vw
 ne:pc≠im
 fj:∀j,F j→¬J j∧j≠pc∧j≠im
 jn:∀j,J j→j≠pc∧j≠im
theorem World.ch(x:World h pc im ps st F J pl ib cb fb vm vl vv I)(c:Ch S h h')(hs:∀j,Ft F J pc im j→¬S j):World h' pc im ps st F J pl ib cb fb vm vl vv I where
 acc:=x.acc.ch c fun j f=>hs j (.inl f)
 con:=x.con.ch c (hs _ (.inr (.inr (.inl rfl))))
 map:=x.map.ch c (hs _ (.inr (.inr (.inr rfl))))
 view:=x.view.ch c fun j f=>hs j (.inr (.inl f))
 ne:=x.ne
 fj:=x.fj
 jn:=x.jn
theorem World.lt(x:World h pc im ps st F J pl ib cb fb vm vl vv I):∀j,Ft F J pc im j→j.nat<h.next.nat:=fun j q=>by
 rcases q with q|q|rfl|rfl
 ·exact x.acc.lt j q
 ·exact x.view.lt j q
 ·exact x.con.2
 ·exact x.map.2
theorem World.afg(x:World h pc im ps st F J pl ib cb fb vm vl vv I){J':Pos→Prop}{vv':V}(ha:st'.acc=st.acc)(hv:VwO h J' vv' st'.vw)(hj:∀j,J' j→¬F j∧j≠pc∧j≠im):
  World (h.put pc (some (.cells (.rw tCn true) [.bool st'.inn,vv',.bool st'.only,iV st'.cnt,.map im]))) pc im ps st' F J' pl ib cb fb vm vl vv' I:=by
 have c:Ch (fun j=>j=pc) h (h.put pc (some (.cells (.rw tCn true) [.bool st'.inn,vv',.bool st'.only,iV st'.cnt,.map im]))):=Ch.put _ _ rfl
 refine⟨?_,x.con.put _,x.map.ch c fun e=>x.ne e.symm,hv.ch c fun j q=>(hj j q).2.1,x.ne,fun j f=>⟨fun q=>(hj j q).1 f,(x.fj j f).2⟩,fun j q=>(hj j q).2⟩
 rw [ha]
 exact x.acc.ch c fun j f=>(x.fj j f).2.1
structure Rq (bb:Nat) (h0:Hp) (Z:Pos→Prop) (h:Hp) (pc im ps ir:Pos) (uid:Bool) (w:Wds) (s:List Nat) (st:Sn) (L:List V) (vw:V) (P F J:Pos→Prop) (pl ib:Pos) (cb:Cap) (fb:Bool) (vm vl vv:V) (I:Pos→Prop):Prop where
 bd:Bd bb h ir 5 tRq L s
 hbb:bb≤h0.next.nat
 ob:∀j,OfB ir 5 L j→Z j∨h0.next.nat≤j.nat
 l1:L[1]?=some (.ptr ps 0)
 l3:L[3]?=some vw
 l4:L[4]?=some (.bool uid)
 l0:L[0]?=some (.ptr pc 0)
 ws:WS P h vw w
 wd:World h pc im ps st F J pl ib cb fb vm vl vv I
 dis:∀j,OfB ir 5 L j→¬Ft F J pc im j
 old:∀j,P j→j.nat<bb∧¬Z j
 foot:∀j,Ft F J pc im j→Z j∨h0.next.nat≤j.nat
 chz:Ch Z h0 h
def zF(bb:Nat)(h0:Hp)(Z:Pos→Prop)(vw:V)(P:Pos→Prop)(h:Hp)(pc im ps ir:Pos)(uid:Bool)(w:Wds)(s:List Nat)(st:Sn):Prop:=
 ∃L F J pl ib cb fb vm vl vv I,Rq bb h0 Z h pc im ps ir uid w s st L vw P F J pl ib cb fb vm vl vv I
theorem Rq.mk'(q:Rq bb h0 Z h pc im ps ir uid w s st L vw P F J pl ib cb fb vm vl vv I):zF bb h0 Z vw P h pc im ps ir uid w s st:=⟨_,_,_,_,_,_,_,_,_,_,_,q⟩
theorem Rq.nw(q:Rq bb h0 Z h pc im ps ir uid w s st L vw P F J pl ib cb fb vm vl vv I)(c:Nw h h'):Rq bb h0 Z h' pc im ps ir uid w s st L vw P F J pl ib cb fb vm vl vv I where
 bd:=q.bd.ch c fun _ _ _ q=>q
 l0:=q.l0
 l1:=q.l1
 l3:=q.l3
 l4:=q.l4
 ws:=q.ws.ch c fun j _ q=>⟨q,fun q=>q⟩
 wd:=q.wd.ch c fun _ _ q=>q
 dis:=q.dis
 old:=q.old
 hbb:=q.hbb
 ob:=q.ob
 foot:=q.foot
 chz:=q.chz.nw c
theorem Rq.kr(q:Rq bb h0 Z h pc im ps ir uid w s st L vw P F J pl ib cb fb vm vl vv I):Kn h ir (.cells (.rw tRq true) L):=⟨q.bd.get,q.bd.hi⟩
theorem Rq.turn(q:Rq bb h0 Z h pc im ps ir uid w s st L vw P F J pl ib cb fb vm vl vv I){F' J' I':Pos→Prop}{pl' ib':Pos}{cb':Cap}{fb':Bool}{vm' vl' vv':V}(wd':World h' pc im ps st' F' J' pl' ib' cb' fb' vm' vl' vv' I')(c:Ch S h h')
  (hS:∀j,S j→Ft F J pc im j) (hF:∀j,Ft F' J' pc im j→Ft F J pc im j∨h.next.nat≤j.nat):Rq bb h0 Z h' pc im ps ir uid w s st' L vw P F' J' pl' ib' cb' fb' vm' vl' vv' I' where
 bd:=q.bd.chO c fun j o e=>q.dis j o (hS j e)
 l0:=q.l0
 l1:=q.l1
 l3:=q.l3
 l4:=q.l4
 ws:=q.ws.ch c fun j _ p=>⟨p,fun e=>by
  have:=q.old j p
  rcases q.foot j (hS j e) with z|z
  ·exact this.2 z
  ·have:=q.hbb;omega⟩
 wd:=wd'
 dis:=fun j o e=>(hF j e).elim (q.dis j o) fun l=>by have:=(o.from q.bd _).2;omega
 old:=q.old
 hbb:=q.hbb
 ob:=q.ob
 foot:=fun j e=>(hF j e).elim (q.foot j) fun l=>.inr (Nat.le_trans q.chz.next l)
 chz:=q.chz.trans c fun j hj e=>(q.foot j (hS j e)).resolve_right (by omega)
theorem Rq.say(q:Rq bb h0 Z h pc im ps ir uid w s st L vw P F J pl ib cb fb vm vl vv I){el:TypeId}(l:List (List Nat)){n:Nat}(hn:l.length=n)(hl:n≤100)(ht:iO l≤100000000)(hb:∀t∈l,∀c∈t,c<256)(hj:n≤1∨dV [32] l≠ [])(hs:s.length+(dV [32] l).length+2≤1000000000):
  ∃r h' L',AP [.ptr ir 0,.slice h.next 0 n (.kn n)] (h.new (.cells (.rw el true) (l.map V.str)))=.ok r h'∧Rq bb h0 Z h' pc im ps ir uid w (s++(dV [32] l++ [13,10])) st L' vw P F J pl ib cb fb vm vl vv I∧Stp (OfB ir 5 L) h (OfB ir 5 L') h':=by
 obtain⟨r,h',L',e,d',c',k',n'⟩:=az7 (el:=el) q.bd l hn hl ht hb hj hs
 refine⟨r,h',L',e,⟨d',q.hbb,fun j o=>(c'.sub j o).elim (q.ob j) fun l=>.inr (Nat.le_trans q.chz.next l),by rw [k' 1 (by omega) (by omega)];exact q.l1,by rw [k' 3 (by omega) (by omega)];exact q.l3,by rw [k' 4 (by omega) (by omega)];exact q.l4,by rw [k' 0 (by omega) (by omega)];exact q.l0,?_,q.wd.ch c'.ch fun j f o=>q.dis j o f,?_,q.old,q.foot,?_⟩,c'⟩
 ·exact q.ws.ch c'.ch fun j _ p=>⟨p,fun o=>by have:=(q.old j p).1;have:=(o.from q.bd _).1;omega⟩
 ·intro j o f
  rcases c'.sub j o with o|o
  ·exact q.dis j o f
  ·have:=q.wd.lt j f;omega
 ·exact q.chz.trans c'.ch fun j hj o=>(q.ob j o).resolve_right (by omega)
theorem Rq.Y3(q:Rq bb h0 Z h pc im ps ir uid w s st L vw P F J pl ib cb fb vm vl vv I):Rq bb h (fun j=>Ft F J pc im j∨OfB ir 5 L j) h pc im ps ir uid w s st L vw P F J pl ib cb fb vm vl vv I where
 bd:=q.bd
 hbb:=Nat.le_trans q.hbb q.chz.next
 ob:=fun j o=>.inl (.inr o)
 l0:=q.l0
 l1:=q.l1
 l3:=q.l3
 l4:=q.l4
 ws:=q.ws
 wd:=q.wd
 dis:=q.dis
 old:=fun j p=>⟨(q.old j p).1,fun e=>e.elim (fun f=>(q.foot j f).elim (q.old j p).2 fun l=>by have:=(q.old j p).1;have:=q.hbb;omega) fun o=>by have:=(q.old j p).1;have:=(o.from q.bd _).1;omega⟩
 foot:=fun j f=>.inl (.inl f)
 chz:=Ch.refl _ _
theorem Rq.comp(q:Rq bb h0 Z h pc im ps ir uid w s st L vw P F J pl ib cb fb vm vl vv I){h2:Hp}{uid2:Bool}{w2:Wds}{s2:List Nat}{st2:Sn}(r:zF bb h (fun j=>Ft F J pc im j∨OfB ir 5 L j) vw P h2 pc im ps ir uid2 w2 s2 st2):
  zF bb h0 Z vw P h2 pc im ps ir uid2 w2 s2 st2∧Ch (fun j=>Ft F J pc im j∨OfB ir 5 L j) h h2:=by
 obtain⟨L',F',J',pl',ib',cb',fb',vm',vl',vv',I',r⟩:=r
 have hz:∀j,(Ft F J pc im j∨OfB ir 5 L j)∨h.next.nat≤j.nat→Z j∨h0.next.nat≤j.nat:=fun j e=>by
  rcases e with(e|e)|e
  ·exact q.foot j e
  ·exact q.ob j e
  ·have:=q.chz.next;exact .inr (by omega)
 exact⟨⟨L',F',J',pl',ib',cb',fb',vm',vl',vv',I',
  {bd:=r.bd
   hbb:=q.hbb
   ob:=fun j o=>hz j (r.ob j o)
   l0:=r.l0
   l1:=r.l1
   l3:=r.l3
   l4:=r.l4
   ws:=r.ws
   wd:=r.wd
   dis:=r.dis
   old:=q.old
   foot:=fun j f=>hz j (r.foot j f)
   chz:=q.chz.trans r.chz fun j hj e=>(hz j (.inl e)).resolve_right (by omega)}⟩,r.chz⟩
end Go.Proofs.Im
