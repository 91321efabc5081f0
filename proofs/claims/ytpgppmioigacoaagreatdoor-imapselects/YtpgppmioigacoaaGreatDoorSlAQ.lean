/- Part of the value machine, or of a walk by it: lemmas that the claim's last text uses. No conditions. -/
import Derived.Test.YtpgppmioigacoaaGreatDoorSlAP
import Derived.Test.YtpgppmioigacoaaGreatDoorSlAL
set_option linter.unusedVariables false
set_option linter.unusedSimpArgs false
set_option linter.unnecessarySimpa false
noncomputable section
namespace Go.Proofs.Im
open Go Go.Proofs Go.Vm
set_option maxRecDepth 100000
theorem avG{s:List Nat}{h:Hp}(hl:s.length<1000000000)(hs:∀c∈s,c<256):∃r h',zh [.str s] h=.ok r h'∧r=.str (foldM s)∧Ch (fun _=>False) h h':=by
 rw [aG3]
 show aU Tryz.prog _ (fun r h'=>r=.str (foldM s)∧Ch (fun _=>False) h h') _
 simp (disch:=omega) only [vvB,Nat.reduceEqDiff,reduceCtorEq,↓reduceIte,ayb,ax5,ax4,ax3,auZ]
 refine Oc.then (dR (n:=s.length) (fun m fr g=>∃k rest,fr.get (Pos.of 0)=some (.str s)∧fr.get (Pos.of 3)=some (.slice h.next 0 k (.kn s.length))∧fr.get (Pos.of 10)=some (.int .i64 (s.length:Int))∧fr.get (Pos.of 11)=some (.int .i64 (k:Int))∧
   k+m=s.length∧g.get h.next=some (.cells (.rw tB true) (bys (foldM (s.take k))++rest))∧rest.length=m∧Ch (fun _=>False) h g∧h.next.nat<g.next.nat)
  (A:=fun fr g=>fr.get (Pos.of 3)=some (.slice h.next 0 s.length (.kn s.length))∧∃rest,g.get h.next=some (.cells (.rw tB true) (bys (foldM s)++rest))∧Ch (fun _=>False) h g) (B:=fun _ _=>False) (by rw [dS];omega) ?_ ?_) ?_ ?_
 ·exact⟨0,times s.length [V.int .u8 0],qK0,qK0,qK0,qK1,by omega,by simp [foldM,bys,dD],aEw _ _,Ch.new _ _ _,by rw [aZ];omega⟩
 ·rintro m fr g ⟨k,rest,f0,f3,f10,f11,hk,hg,hr,chg,hp⟩
  by_cases hz:m=0
  ·subst hz
   have hks:k=s.length:=by omega
   subst hks
   simp (disch:=omega) only [vvB,Nat.reduceEqDiff,reduceCtorEq,↓reduceIte,Wi,VO,f10,f11]
   exact⟨rfl,qK2 f3,rest,by rw [List.take_length] at hg;exact hg,chg⟩
  ·have hlt:k<s.length:=by omega
   obtain⟨x,rest',rfl⟩:∃x r,rest=x::r:=by
    cases rest with
    |nil=>simp at hr;omega
    |cons x r=>exact⟨x,r,rfl⟩
   have hc:=hs s[k] (List.getElem_mem _)
   have ix:∀h,dG (.str s) (.int .i64 (k:Int)) h=.ok (.int .u8 ((s[k]:Nat):Int)) h:=fun h=>jl (List.getElem?_eq_getElem hlt)
   generalize hcc:s[k]=c at hc ix
   have ht:foldM (s.take (k+1))=foldM (s.take k)++ [QA c]:=by
    rw [List.take_add_one,List.getElem?_eq_getElem hlt,hcc];simp [foldM]
   have hpl:(bys (foldM (s.take k))).length=k:=by rw [kS];simp [foldM];omega
   have ap:=fun y:V=>aNV (el:=tB) (bt:=1) (y:=y) hg hpl hlt hp
   have fin:∀g',g'=(g.new (.cells (.rw tB true) [V.int .u8 ((QA c:Nat):Int)])).put h.next (some (.cells (.rw tB true) (bys (foldM (s.take k))++V.int .u8 ((QA c:Nat):Int)::rest')))→
     g'.get h.next=some (.cells (.rw tB true) (bys (foldM (s.take (k+1)))++rest'))∧Ch (fun _=>False) h g'∧h.next.nat<g'.next.nat:=by
    rintro g' rfl
    refine⟨?_,?_,by rw [jr,aZ];omega⟩
    ·rw [dJ,ht,qo];simp [bys]
    ·refine⟨by rw [jr,aZ];have:=chg.next;omega,fun j hj hn=>?_⟩
     rw [Oi _ (by omega),new_ne _ (by have:=chg.next;omega)]
     exact chg.get j hj hn
   by_cases h1:65≤c
   ·by_cases h2:c≤90
    ·have hlow:QA c=c+32:=by unfold QA;rw [if_pos ⟨h1,h2⟩]
     have ad:∀h,aI .add .none (.int .u8 (c:Int)) (.int .u8 32) h=.ok (.int .u8 ((c+32:Nat):Int)) h:=fun h=>aEV (b:=32) (by omega)
     rw [hlow] at fin
     simp (disch:=omega) only [vvB,Nat.reduceEqDiff,reduceCtorEq,↓reduceIte,Wi,VO,ab2,ab1,abZ,abY,abX,abW,f0,f3,f10,f11,ix,ad,ap]
     obtain⟨q1,q2,q3⟩:=fin _ rfl
     exact⟨m - 1,by omega,k+1,rest',qK2 f0,qK0,qK2 f10,qK1,by omega,q1,by simp at hr;omega,q2,q3⟩
    ·have hlow:QA c=c:=by unfold QA;rw [if_neg (by omega)]
     rw [hlow] at fin
     simp (disch:=omega) only [vvB,Nat.reduceEqDiff,reduceCtorEq,↓reduceIte,Wi,VO,ab2,ab1,abZ,abY,abX,abW,f0,f3,f10,f11,ix,ap]
     obtain⟨q1,q2,q3⟩:=fin _ rfl
     exact⟨m - 1,by omega,k+1,rest',qK2 f0,qK0,qK2 f10,qK1,by omega,q1,by simp at hr;omega,q2,q3⟩
   ·have hlow:QA c=c:=by unfold QA;rw [if_neg (by omega)]
    rw [hlow] at fin
    simp (disch:=omega) only [vvB,Nat.reduceEqDiff,reduceCtorEq,↓reduceIte,Wi,VO,ab2,ab1,abZ,abY,abX,abW,f0,f3,f10,f11,ix,ap]
    obtain⟨q1,q2,q3⟩:=fin _ rfl
    exact⟨m - 1,by omega,k+1,rest',qK2 f0,qK0,qK2 f10,qK1,by omega,q1,by simp at hr;omega,q2,q3⟩
 ·rintro fr g ⟨f3,rest,hg,chg⟩
  have hb:=azd (n:=s.length) hg (aH6 hs)
  rw [show(foldM s).length=s.length by simp [foldM]] at hb
  simp (disch:=omega) only [vvB,Nat.reduceEqDiff,reduceCtorEq,↓reduceIte,asG,f3,hb]
  exact aU.ret (qT0) ⟨rfl,chg⟩
 ·intro fr g q;exact q.elim
theorem Zg{s:List Nat}(h:Hp)(hl:s.length<1000000000)(hs:∀c∈s,c<256):∃h',zh [.str s] h=.ok (.str (foldM s)) h'∧Ch (fun _=>False) h h':=by
 obtain⟨r,h',e,rfl,c⟩:=avG hl hs
 exact⟨h',e,c⟩
end Go.Proofs.Im

noncomputable section
namespace Go.Proofs.Im
open Go Go.Proofs Go.Vm
set_option maxRecDepth 100000
structure Bd (b:Nat) (h:Hp) (i:Pos) (q:Nat) (t:TypeId) (l:List V) (s:List Nat):Prop where
 hb:b≤i.nat
 hi:i.nat<h.next.nat
 get:h.get i=some (.cells (.rw t true) l)
 addr:l[q]?=some .bY∨l[q]?=some (.ptr i q)
 buf:∃vb,l[q+1]?=some vb∧Ow b h tB 1 vb s.length (bys s)∧∀j,aX vb=some j→j≠i
 lies:liesAt Tryz.prog Tryz.prog.depth t (l.length / Tryz.prog.cellsOf t) q tBd 1=true
theorem Bd.ch{b:Nat}{h h':Hp}{i:Pos}{q:Nat}{t:TypeId}{l:List V}{s:List Nat}{S:Pos→Prop}(d:Bd b h i q t l s)(c:Ch S h h')(hs:∀j:Pos,b≤j.nat→j.nat<h.next.nat→¬S j):Bd b h' i q t l s:=by
 obtain⟨vb,h1,h2,h3⟩:=d.buf
 refine⟨d.hb,Nat.lt_of_lt_of_le d.hi c.next,by rw [c.get i d.hi (hs i d.hb d.hi)];exact d.get,d.addr,⟨vb,h1,h2.ch c fun j hj=>hs j (h2.dN hj).1 (h2.dN hj).2,h3⟩,d.lies⟩
theorem apC(l:List V)(q:Nat)(v:V):(l.set q v).length=l.length:=by simp
theorem av3{b:Nat}{h:Hp}{i:Pos}{q:Nat}{t:TypeId}{l:List V}{s:List Nat}(d:Bd b h i q t l s):
  ∃r h',ahq [.ptr i q] h=.ok r h'∧Bd b h' i q t (l.set q (.ptr i q)) s∧Ch (fun j=>j=i) h h'∧h'.next=h.next:=by
 rw [aG1]
 show aU Tryz.prog _ (fun r h'=>Bd b h' i q t (l.set q (.ptr i q)) s∧Ch (fun j=>j=i) h h'∧h'.next=h.next) _
 have hg:=d.get
 rcases d.addr with ha|ha
 ·have L0:aF (.ptr i q) h=.ok .bY h:=by rw [gy hg];simp only [ha]
  have hql:q<l.length:=(List.getElem?_eq_some_iff.1 ha).1
  have U0:=aJU hg ha
  have U1:=aFm (P:=Tryz.prog) (u:=tBd) hg ha d.lies
  have S0:=jO hg (y:=.ptr i q) ⟨rfl,rfl⟩ hql
  have N0:ayJ [.ptr i q] h=.ok (.ptr i q) h:=rfl
  simp (disch:=omega) only [vvB,Nat.reduceEqDiff,reduceCtorEq,↓reduceIte,ao3,alJ,axR,Nat.add_zero,L0,aiz,U0,N0,U1,S0]
  refine aU.nor (qT0) ⟨?_,Ch.put h _ rfl,rfl⟩
  obtain⟨vb,h1,h2,h3⟩:=d.buf
  refine⟨d.hb,d.hi,dJ _ _ _,.inr (by rw [List.getElem?_set_self hql]),⟨vb,?_,h2.ch (Ch.put (S:=fun j=>j=i) h _ rfl) fun j hj=>h3 j hj,h3⟩,by rw [apC];exact d.lies⟩
  rw [List.getElem?_set_ne (by omega)];exact h1
 ·have L0:aF (.ptr i q) h=.ok (.ptr i q) h:=by rw [gy hg];simp only [ha]
  have hql:q<l.length:=(List.getElem?_eq_some_iff.1 ha).1
  simp (disch:=omega) only [vvB,Nat.reduceEqDiff,reduceCtorEq,↓reduceIte,ao3,alJ,axQ,Nat.add_zero,L0,fF,auH (n:=2) rfl]
  have he:l.set q (.ptr i q)=l:=by
   apply List.ext_getElem?
   intro k
   by_cases hk:q=k
   ·subst hk;rw [List.getElem?_set_self hql,ha]
   ·rw [List.getElem?_set_ne hk]
  rw [he]
  exact aU.nor (qT0) ⟨d,Ch.refl _ _,rfl⟩
def OfB(i:Pos)(q:Nat)(l:List V)(j:Pos):Prop:=j=i∨∃v,l[q+1]?=some v∧aX v=some j
theorem Uk{b:Nat}{h:Hp}{i:Pos}{q:Nat}{ty:TypeId}{l:List V}{s:List Nat}(d:Bd b h i q ty l s)(t:List Nat)(hs:s.length+t.length≤1000000000):
  ∃r h' l',zf [.ptr i q,.str t] h=.ok r h'∧Bd b h' i q ty l' (s++t)∧Stp (OfB i q l) h (OfB i q l') h'∧(∀k,k≠q→k≠q+1→l'[k]?=l[k]?)∧l'.length=l.length:=by
 obtain⟨r1,h1,e1,d1,c1,n1⟩:=av3 d
 obtain⟨vb,b1,b2,b3⟩:=d1.buf
 obtain⟨v',h2,e2,o2,c2,i2⟩:=aKu (bt:=1) (t:=t) b2 (by have:=d1.hb;have:=d1.hi;omega) (by omega)
 have hql:q+1<(l.set q (V.ptr i q)).length:=(List.getElem?_eq_some_iff.1 b1).1
 have L1:aF (.ptr i (q+1)) h1=.ok vb h1:=by rw [gy d1.get];simp only [b1]
 have g2:h2.get i=some (.cells (.rw ty true) (l.set q (.ptr i q))):=by rw [c2.get i d1.hi fun hj=>b3 i hj rfl];exact d1.get
 have S1:=jO g2 (y:=v') o2.cell hql
 have c3:Ch (fun j=>j=i) h2 (h2.put i (some (.cells (.rw ty true) ((l.set q (.ptr i q)).set (q+1) v')))):=Ch.put h2 _ rfl
 refine⟨.tuple (.cons (.int .i64 (t.length:Int)) (.cons .oJ .nil)),h2.put i (some (.cells (.rw ty true) ((l.set q (.ptr i q)).set (q+1) v'))),(l.set q (.ptr i q)).set (q+1) v',?_,?_,?_,fun k hk hk'=>by rw [List.getElem?_set_ne (by omega),List.getElem?_set_ne (by omega)],by simp⟩
 ·rw [aG2]
  simp (disch:=omega) only [vvB,Nat.reduceEqDiff,reduceCtorEq,↓reduceIte,aya,ax2,ax1,ax0,axZ,e1,L1,e2,S1]
  simp only [aT,bD,vvB,Nat.reduceEqDiff,reduceCtorEq,↓reduceIte,bF]
  rfl
 ·refine⟨d.hb,by rw [jr];have:=d1.hi;have:=c2.next;omega,dJ _ _ _,.inr ?_,⟨v',?_,?_,?_⟩,by rw [apC];exact d1.lies⟩
  ·rw [List.getElem?_set_ne (by omega),List.getElem?_set_self (by simp at hql;omega)]
  ·rw [List.getElem?_set_self hql]
  ·have o3:=o2.ch c3 fun j hj=>by
    rcases i2 j hj with hj'|hj'
    ·exact b3 j hj'
    ·intro e;rw [e] at hj';have:=d1.hi;omega
   rw [List.length_append];exact o3
  ·intro j hj
   rcases i2 j hj with hj'|hj'
   ·exact b3 j hj'
   ·intro e;rw [e] at hj';have:=d1.hi;omega
 ·have hb0:l[q+1]?=some vb:=by rw [List.getElem?_set_ne (by omega)] at b1;exact b1
  have k1:Stp (OfB i q l) h (OfB i q l) h1:=⟨c1.mono fun j _ e=>.inl e,fun _ q=>.inl q⟩
  have k2:Stp (OfB i q l) h1 (OfB i q ((l.set q (.ptr i q)).set (q+1) v')) h2:=⟨c2.mono fun j _ hj=>.inr ⟨vb,hb0,hj⟩,fun j hj=>by
   rcases hj with hj|⟨v2,hv2,hj⟩
   ·exact .inl (.inl hj)
   ·rw [List.getElem?_set_self hql] at hv2
    cases hv2
    rcases i2 j hj with hj'|hj'
    ·exact .inl (.inr ⟨vb,hb0,hj'⟩)
    ·exact .inr hj'⟩
  exact(k1.trans k2).step c3 fun j e=>.inl e
theorem OfB.from{b:Nat}{h:Hp}{i:Pos}{q:Nat}{t:TypeId}{l:List V}{s:List Nat}(d:Bd b h i q t l s)(j:Pos)(o:OfB i q l j):b≤j.nat∧j.nat<h.next.nat:=by
 rcases o with rfl|⟨v,hv,hj⟩
 ·exact⟨d.hb,d.hi⟩
 ·obtain⟨vb,b1,b2,b3⟩:=d.buf
  rw [b1] at hv
  cases hv
  exact b2.dN hj
theorem Bd.chO{b:Nat}{h h':Hp}{i:Pos}{q:Nat}{t:TypeId}{l:List V}{s:List Nat}{S:Pos→Prop}(d:Bd b h i q t l s)(c:Ch S h h')(hs:∀j:Pos,OfB i q l j→¬S j):Bd b h' i q t l s:=by
 obtain⟨vb,h1,h2,h3⟩:=d.buf
 refine⟨d.hb,Nat.lt_of_lt_of_le d.hi c.next,by rw [c.get i d.hi (hs i (.inl rfl))];exact d.get,d.addr,⟨vb,h1,h2.ch c fun j hj=>hs j (.inr ⟨vb,h1,hj⟩),h3⟩,d.lies⟩
theorem akh{b:Nat}{h:Hp}{i:Pos}{q:Nat}{ty:TypeId}{l:List V}{s:List Nat}(d:Bd b h i q ty l s)(t:List Nat)(hs:s.length+t.length≤1000000000):
  ∃r h' l',zf [.ptr i q,.str t] h=.ok r h'∧Bd b h' i q ty l' (s++t)∧Ch (fun j=>b≤j.nat) h h'∧(∀k,k≠q→k≠q+1→l'[k]?=l[k]?)∧l'.length=l.length:=by
 obtain⟨r,h',l',e,d',c,k,n⟩:=Uk d t hs
 exact⟨r,h',l',e,d',c.ch.mono fun j _ o=>(o.from d j).1,k,n⟩
theorem aeE{b:Nat}{h:Hp}{i:Pos}{q:Nat}{t:TypeId}{l:List V}{s:List Nat}(d:Bd b h i q t l s)(h0:s≠ [])(hs:∀c∈s,c<256)(hl:s.length≤1000000000):
  ∃h',JM [.ptr i q] h=.ok (.str s) h'∧Ch (fun j=>OfB i q l j∧j≠i) h h'∧h'.next=h.next:=by
 obtain⟨vb,b1,b2,b3⟩:=d.buf
 have L1:aF (.ptr i (q+1)) h=.ok vb h:=by rw [gy d.get];simp only [b1]
 have L2:aY 2 vb h=.ok (.int .i64 (s.length:Int)) h:=b2.sl.length
 have hpos:0<s.length:=by cases s with|nil=>exact absurd rfl h0|cons _ _=>simp
 rcases b2.is with⟨e0,_⟩|⟨j,rfl,hj1,hj2,f,hg⟩
 ·omega
 ·obtain⟨m,hm⟩:∃m,s.length=m+1:=⟨s.length - 1,by omega⟩
  have D1:Dk (.slice j 0 s.length (.un 1)) h=.ok (.ptr j 0) h:=by rw [hm];rfl
  have U1:=at7 hg hs (by omega) h0
  have hv:eqV (V.slice j 0 s.length (.un 1)) (V.slice j 0 s.length (.un 1))=true:=by
   show(match j.eq j,Nat.beq 0 0,Nat.beq s.length s.length with
    |true,true,true=>Nat.beq 1 1
    |_,_,_=>false)=true
   rw [Pos.eq_self,Nat.beq_refl,Nat.beq_refl];rfl
  refine⟨h.put j (some (.cells .ro (bys s))),?_,Ch.put h _ ⟨.inr ⟨_,b1,rfl⟩,b3 j rfl⟩,rfl⟩
  rw [asP]
  simp (disch:=omega) only [vvB,Nat.reduceEqDiff,reduceCtorEq,↓reduceIte,ao6,alO,alN,L1,L2,D1,U1,zo (m:=fun h=>aF (.ptr i (q+1)) h) L1 hv]
  simp only [aT,bD,vvB,Nat.reduceEqDiff,reduceCtorEq,↓reduceIte,bF]
theorem aEz{b:Nat}{h:Hp}{i:Pos}{q:Nat}{t:TypeId}{l:List V}{s:List Nat}(d:Bd b h i q t l s)(h0:s≠ [])(hs:∀c∈s,c<256)(hl:s.length≤1000000000):
  ∃h',JM [.ptr i q] h=.ok (.str s) h'∧Ch (fun j=>b≤j.nat∧j≠i) h h'∧h'.next=h.next:=by
 obtain⟨h',e,c,n⟩:=aeE d h0 hs hl
 exact⟨h',e,c.mono fun j _ o=>⟨(o.1.from d j).1,o.2⟩,n⟩
end Go.Proofs.Im

noncomputable section
namespace Go.Proofs.Im
open Go Go.Proofs Go.Vm
set_option maxRecDepth 100000
theorem aH3{b:Nat}{h:Hp}{i:Pos}{q:Nat}{t:TypeId}{l:List V}(d:Bd b h i q t l [])(hbuf:l[q+1]?=some .aG)(n:Nat)(h0:0<n)(hn:n≤1000000000):
  ∃r h' l',apw [.ptr i q,.int .i64 (n:Int)] h=.ok r h'∧Bd b h' i q t l' []∧Ch (fun j=>b≤j.nat) h h'∧l'.length=l.length∧(∀k,k≠q→k≠q+1→l'[k]?=l[k]?):=by
 have L1:aF (.ptr i (q+1)) h=.ok .aG h:=by rw [gy d.get];simp only [hbuf]
 have hql:q+1<l.length:=(List.getElem?_eq_some_iff.1 hbuf).1
 have g2:(h.new (.cells (.rw tB false) [])).get i=some (.cells (.rw t true) l):=by rw [new_ne h (by have:=d.hi;omega)];exact d.get
 have L2:aF (.ptr i (q+1)) (h.new (.cells (.rw tB false) []))=.ok .aG (h.new (.cells (.rw tB false) [])):=by rw [gy g2];simp only [hbuf]
 have S2:=jO g2 (y:=.slice h.next 0 0 (.un 1)) ⟨rfl,rfl⟩ hql
 have N0:ayI [.int .i64 (n:Int)] h=.ok (.slice h.next 0 n (.un 1)) (h.new (.cells (.rw tB false) [])):=aEX (by omega)
 have M0:aI .mul .none (.int .i64 2) (.int .i64 0) h=.ok (.int .i64 0) h:=rfl
 have c1:Ch (fun j=>b≤j.nat) h (h.new (.cells (.rw tB false) [])):=Ch.new _ _ _
 have c2:Ch (fun j=>j=i) (h.new (.cells (.rw tB false) [])) ((h.new (.cells (.rw tB false) [])).put i (some (.cells (.rw t true) (l.set (q+1) (.slice h.next 0 0 (.un 1)))))):=Ch.put _ _ rfl
 refine⟨.tuple .nil,(h.new (.cells (.rw tB false) [])).put i (some (.cells (.rw t true) (l.set (q+1) (.slice h.next 0 0 (.un 1))))),l.set (q+1) (.slice h.next 0 0 (.un 1)),?_,?_,c1.trans (c2.mono fun j _ e=>by rw [e];exact d.hb) (fun _ _ q=>q),by simp,fun k _ hk=>by rw [List.getElem?_set_ne (by omega)]⟩
 ·rw [aG0]
  simp (disch:=omega) only [vvB,Nat.reduceEqDiff,reduceCtorEq,↓reduceIte,ax9,axP,axO,axN,L1,L2,aeW,WO,M0,Int.zero_add,N0,S2,aCV,aCY,aAV (m:=fun h=>aF (.ptr i (q+1)) h) L1 L1 (show eqV V.aG V.aG=true from rfl)]
  simp only [aT,bD,vvB,Nat.reduceEqDiff,reduceCtorEq,↓reduceIte,bF]
  rfl
 ·refine⟨d.hb,by rw [jr,aZ];have:=d.hi;omega,dJ _ _ _,?_,⟨.slice h.next 0 0 (.un 1),by rw [List.getElem?_set_self hql],⟨by simp [bys],.inr ⟨h.next,rfl,by have:=d.hb;have:=d.hi;omega,by rw [jr,aZ];omega,false,?_⟩⟩,?_⟩,by rw [apC];exact d.lies⟩
  ·rcases d.addr with ha|ha
   ·left;rw [List.getElem?_set_ne (by omega)];exact ha
   ·right;rw [List.getElem?_set_ne (by omega)];exact ha
  ·rw [Oi _ (by have:=d.hi;omega),dD];rfl
  ·intro j hj e;cases hj;have:=d.hi;rw [←e] at this;omega
theorem aJ9{b:Nat}{h:Hp}{i:Pos}{q:Nat}{t:TypeId}{l:List V}(d:Bd b h i q t l [])(hbuf:l[q+1]?=some .aG)(n:Nat)(hn:n≤1000000000):
  ∃r h' l',apx [.ptr i q,.int .i64 (n:Int)] h=.ok r h'∧Bd b h' i q t l' []∧Ch (fun j=>b≤j.nat) h h'∧l'.length=l.length∧(∀k,k≠q→k≠q+1→l'[k]?=l[k]?):=by
 obtain⟨r1,h1,e1,d1,c1,n1⟩:=av3 d
 have hbuf1:(l.set q (V.ptr i q))[q+1]?=some .aG:=by rw [List.getElem?_set_ne (by omega)];exact hbuf
 have L1:aF (.ptr i (q+1)) h1=.ok .aG h1:=by rw [gy d1.get];simp only [hbuf1]
 have k1:Ch (fun j=>b≤j.nat) h h1:=c1.mono fun j _ e=>by rw [e];exact d.hb
 have CK:= @zo (fun h=>aF (.ptr i (q+1)) h) V.aG
 by_cases h0:n=0
 ·refine⟨.tuple .nil,h1,l.set q (.ptr i q),?_,d1,k1,by simp,fun k hk _=>by rw [List.getElem?_set_ne (by omega)]⟩
  rw [asO]
  simp (disch:=omega) only [vvB,Nat.reduceEqDiff,reduceCtorEq,↓reduceIte,ao5,alM,alL,alK,e1,L1,aeW,WO,zo (m:=fun h=>aF (.ptr i (q+1)) h) L1 (show eqV V.aG V.aG=true from rfl)]
  simp only [aT,bD,vvB,Nat.reduceEqDiff,reduceCtorEq,↓reduceIte,bF]
  rfl
 ·obtain⟨r2,h2,l2,e2,d2,c2,n2,o2⟩:=aH3 d1 hbuf1 n (by omega) hn
  refine⟨.tuple .nil,h2,l2,?_,d2,k1.trans c2 fun _ _ q=>q,by rw [n2];simp,fun k hk hk'=>by rw [o2 k hk hk',List.getElem?_set_ne (by omega)]⟩
  rw [asO]
  simp (disch:=omega) only [vvB,Nat.reduceEqDiff,reduceCtorEq,↓reduceIte,ao5,alM,alL,alK,axS,e1,e2,L1,aeW,WO,zo (m:=fun h=>aF (.ptr i (q+1)) h) L1 (show eqV V.aG V.aG=true from rfl)]
  simp only [aT,bD,vvB,Nat.reduceEqDiff,reduceCtorEq,↓reduceIte,bF]
  rfl
end Go.Proofs.Im

noncomputable section
namespace Go.Proofs.Im
open Go Go.Proofs Go.Vm
set_option maxRecDepth 100000
theorem strs_get{l:List (List Nat)}{k:Nat}{a:List Nat}(e:l[k]?=some a):(l.map V.str)[k]?=some (.str a):=by rw [List.getElem?_map,e];rfl
theorem aAt:liesAt Tryz.prog Tryz.prog.depth tBd (2 / Tryz.prog.cellsOf tBd) 0 tBd 1=true:=by kernel_rfl
theorem aJV(h:Hp):fC tBd [.bY,.aG] h=.ok (.ptr h.next 0) (h.new (.cells (.rw tBd true) [.bY,.aG])):=(rfl)
theorem take_snoc{α:Type}{l:List α}{k:Nat}{a:α}(e:l[k]?=some a):l.take (k+1)=l.take k++ [a]:=by rw [List.take_add_one,e];rfl
theorem akC{c:Nat}{h:Hp}{v:V}{l:List (List Nat)}{sep:List Nat}(s:Sl c h 1 v l.length (l.map V.str))(hcap:jM 1 v)(hc:c≤h.next.nat)(hn:l.length≤1000000)(hs:sep.length≤100)(ht:iO l≤100000000)
  (hb:∀t∈l,∀c∈t,c<256) (hsb:∀c∈sep,c<256) (hne:l.length≤1∨dV sep l≠ []):
  ∃r h',aic [v,.str sep] h=.ok r h'∧r=.str (dV sep l)∧Ch (fun _=>False) h h':=by
 rw [aI5]
 show aU Tryz.prog _ (fun r h'=>r=.str (dV sep l)∧Ch (fun _=>False) h h') _
 have sl:∀h',aY 2 v h'=.ok (.int .i64 (l.length:Int)) h':=fun h'=>s.length
 cases l with
 |nil=>
  simp (disch:=omega) only [vvB,Nat.reduceEqDiff,reduceCtorEq,↓reduceIte,ah8,aah,aag,aaf,aB2,sl,List.length_nil,show((0:Nat):Int)=0 from rfl]
  exact aU.ret (qT0) ⟨rfl,Ch.refl _ _⟩
 |cons a r=>
 obtain⟨i0,q0,x0,hx0,e0,hi0,l0⟩:=s.at1 (m:=0) (by simp)
 rw [strs_get (show(a::r)[0]?=some a from rfl)] at hx0
 cases hx0
 cases r with
 |nil=>
  have e0':∀h',bU 1 v (.int .i64 0) h'=.ok (.ptr i0 q0) h':=e0
  simp (disch:=omega) only [vvB,Nat.reduceEqDiff,reduceCtorEq,↓reduceIte,ah8,aah,aag,aaf,ah6,aB1,sl,List.length_cons,List.length_nil,Nat.zero_add,show((1:Nat):Int)=1 from rfl,e0',l0 h rfl]
  exact aU.ret (r:=.str (dV sep [a])) (qT0) ⟨rfl,Ch.refl _ _⟩
 |cons a2 r2=>
 generalize hrr:a2::r2=rr at*
 have hrl:1≤rr.length:=by rw [←hrr];simp
 have hln:(a::rr).length=rr.length+1:=by simp
 rw [hln] at sl hn
 have hcast:((rr.length+1:Nat):Int)=(rr.length:Int)+1:=by omega
 rw [hcast] at sl
 have hsz:iO (a::rr)=a.length+iO rr:=by simp [iO]
 obtain⟨w0,hw0⟩:∃w0,w0=sep.length*rr.length:=⟨_,rfl⟩
 have hw:w0≤100000000:=by rw [hw0];exact Nat.le_trans (Nat.mul_le_mul hs (show rr.length≤1000000 by omega)) (by omega)
 have hmul:(sep.length:Int)*((rr.length:Int)+1 - 1)=(w0:Int):=by
  rw [hw0,show(rr.length:Int)+1 - 1=(rr.length:Int) by omega];simp
 have hmul0:sep.length=0→w0=0:=fun e=>by rw [hw0,e,Nat.zero_mul]
 have hq1:(1000:Int)≤Int.tdiv 9223372036854775807 ((rr.length:Int)+1 - 1):=by
  rw [Int.tdiv_eq_ediv_of_nonneg (by omega)]
  exact Int.le_ediv_of_mul_le (by omega) (by omega)
 have hq2:Int.tdiv 9223372036854775807 ((rr.length:Int)+1 - 1)≤9223372036854775807:=by
  rw [Int.tdiv_eq_ediv_of_nonneg (by omega)]
  exact Int.ediv_le_self _ (by omega)
 have qu:∀h',aI .quo .none (.int .i64 9223372036854775807) (.int .i64 ((rr.length:Int)+1 - 1)) h'=.ok (.int .i64 (Int.tdiv 9223372036854775807 ((rr.length:Int)+1 - 1))) h':=fun h'=>au7 (by omega) (by omega) (by omega)
 have mu:∀h',aI .mul .none (.int .i64 (sep.length:Int)) (.int .i64 ((rr.length:Int)+1 - 1)) h'=.ok (.int .i64 (w0:Int)) h':=fun h'=>by rw [akw (by rw [hmul];omega) (by rw [hmul];omega),hmul]
 generalize hqq:Int.tdiv 9223372036854775807 ((rr.length:Int)+1 - 1)=qq at*
 have main:∀fr,fr.get (Pos.of 0)=some v→fr.get (Pos.of 1)=some (.str sep)→fr.get (Pos.of 5)=some (.int .i64 (w0:Int))→
   aU Tryz.prog [.tmp 4] (fun r h'=>r=.str (dV sep (a::rr))∧Ch (fun _=>False) h h') (nC (nC (alF fr h) (bP 1 (dI acD lf))) (aB alD (aB alC (aB alB (aB (aB alA (bP 3 (dI acC lf))) (aB aly Out.ret)))))):=by
  intro fr f0 f1 f5
  simp (disch:=omega) only [vvB,Nat.reduceEqDiff,reduceCtorEq,↓reduceIte,alF,f0,sl]
  refine Oc.then (dR (n:=rr.length+1) (fun m fr g=>∃k:Nat,fr.get (Pos.of 0)=some v∧fr.get (Pos.of 1)=some (.str sep)∧fr.get (Pos.of 39)=some v∧fr.get (Pos.of 40)=some (.int .i64 ((rr.length:Int)+1))∧fr.get (Pos.of 41)=some (.int .i64 (k:Int))∧
    fr.get (Pos.of 5)=some (.int .i64 ((w0+iO ((a::rr).take k):Nat):Int))∧k+m=rr.length+1∧g=h)
   (A:=fun fr g=>fr.get (Pos.of 0)=some v∧fr.get (Pos.of 1)=some (.str sep)∧fr.get (Pos.of 5)=some (.int .i64 ((w0+iO (a::rr):Nat):Int))∧g=h) (B:=fun _ _=>False) (by rw [dS];omega) ?_ ?_) ?_ ?_
  ·exact⟨0,qK2 f0,qK2 f1,qK0,qK0,qK1,by simp only [vvB,Nat.reduceEqDiff,reduceCtorEq,↓reduceIte,f5];simp [iO],by omega,rfl⟩
  ·rintro m fr g ⟨k,f0,f1,f39,f40,f41,f5,hk,rfl⟩
   by_cases hz:m=0
   ·simp (disch:=omega) only [vvB,Nat.reduceEqDiff,reduceCtorEq,↓reduceIte,acD,alE,f40,f41]
    have hk':k=(a::rr).length:=by rw [hln];omega
    rw [hk',List.take_length] at f5
    exact⟨rfl,qK2 f0,qK2 f1,qK2 f5,rfl⟩
   ·have hlt:k<(a::rr).length:=by rw [hln];omega
    obtain⟨i,q,x,hx,e1,-,e2⟩:=s.at1 hlt
    obtain⟨t,het⟩:∃t,(a::rr)[k]?=some t:=⟨_,List.getElem?_eq_getElem hlt⟩
    rw [strs_get het] at hx
    cases hx
    have hss:=aCE ((a::rr).take k) t
    rw [←take_snoc het] at hss
    have hle:=amC (a::rr) (k+1)
    simp (disch:=omega) only [vvB,Nat.reduceEqDiff,reduceCtorEq,↓reduceIte,acD,alE,axL,axK,axJ,axI,f5,f39,f40,f41,e1,e2 g rfl]
    exact⟨m - 1,by omega,k+1,qK2 f0,qK2 f1,qK2 f39,qK2 f40,qK1,by simp only [vvB,Nat.reduceEqDiff,reduceCtorEq,↓reduceIte];rw [hss];congr 2;omega,by omega,rfl⟩
  ·rintro fr g ⟨f0,f1,f5,rfl⟩
   have d0:Bd g.next.nat (g.new (.cells (.rw tBd true) [.bY,.aG])) g.next 0 tBd [.bY,.aG] []:=
    ⟨Nat.le_refl _,by rw [aZ];omega,dD _ _,.inl rfl,⟨.aG,rfl,Ow.nil _ _ _ _,fun j hj=>(by cases hj)⟩,aAt⟩
   obtain⟨r3,h3,l3,e3,d3,c3,n3,-⟩:=aJ9 d0 rfl (w0+iO (a::rr)) (by omega)
   have c03:Ch (fun j=>g.next.nat≤j.nat) g h3:=(Ch.new (fun j=>g.next.nat≤j.nat) g _).trans c3 fun _ _ q=>q
   obtain⟨r4,h4,l4,e4,d4,c4,-,n4⟩:=akh d3 a (by simp;omega)
   have c04:=c03.trans c4 fun _ _ q=>q
   obtain⟨v',es,s',cap',-⟩:=s.from hcap (by omega) (lo:=1) (by simp)
   have s4:∀{g'},Ch (fun j=>g.next.nat≤j.nat) g g'→Sl c g' 1 v' rr.length (rr.map V.str):=fun c=>by
    have:=s'.ch c hc fun j hj=>by have:=s'.dN hj;omega
    simpa using this
   have L0:aF (.ptr i0 q0) h3=.ok (.str a) h3:=l0 h3 (c03.get i0 (by omega) (by omega))
   have e0':∀h',bU 1 v (.int .i64 0) h'=.ok (.ptr i0 q0) h':=e0
   have es':∀h',eX 1 v (some (.int .i64 1)) none none h'=.ok v' h':=es
   have sl':∀h',aY 2 v' h'=.ok (.int .i64 (rr.length:Int)) h':=fun h'=>(s4 c04).length
   simp (disch:=omega) only [vvB,Nat.reduceEqDiff,reduceCtorEq,↓reduceIte,alD,alC,alB,alA,f0,f1,f5,aJV,e3,e0',L0,e4,es',sl']
   refine Oc.then (dR (n:=rr.length) (fun m fr g'=>∃(k:Nat) (lb:List V),fr.get (Pos.of 1)=some (.str sep)∧fr.get (Pos.of 8)=some (.ptr g.next 0)∧fr.get (Pos.of 63)=some v'∧fr.get (Pos.of 64)=some (.int .i64 (rr.length:Int))∧fr.get (Pos.of 65)=some (.int .i64 (k:Int))∧
     k+m=rr.length∧Bd g.next.nat g' g.next 0 tBd lb (a++zT sep (rr.take k))∧Ch (fun j=>g.next.nat≤j.nat) g g')
    (A:=fun fr g'=>fr.get (Pos.of 8)=some (.ptr g.next 0)∧∃lb,Bd g.next.nat g' g.next 0 tBd lb (dV sep (a::rr))∧Ch (fun j=>g.next.nat≤j.nat) g g') (B:=fun _ _=>False) (by rw [dS];omega) ?_ ?_) ?_ ?_
   ·exact⟨0,l4,qK2 f1,qK0,qK0,qK0,qK1,by omega,by simpa [zT] using d4,c04⟩
   ·rintro m fr g' ⟨k,lb,f1,f8,f63,f64,f65,hk,db,cg⟩
    by_cases hz:m=0
    ·simp (disch:=omega) only [vvB,Nat.reduceEqDiff,reduceCtorEq,↓reduceIte,acC,alz,f64,f65]
     have hk':k=rr.length:=by omega
     rw [hk',List.take_length,←Dp] at db
     exact⟨rfl,qK2 f8,lb,db,cg⟩
    ·have hlt:k<rr.length:=by omega
     obtain⟨i,q,x,hx,e1,-,e2⟩:=(s4 cg).at1 hlt
     obtain⟨t,het⟩:∃t,rr[k]?=some t:=⟨_,List.getElem?_eq_getElem hlt⟩
     rw [strs_get het] at hx
     cases hx
     have hlen:(a++zT sep (rr.take (k+1))).length≤900000000:=by
      rw [List.length_append,ae8]
      have h1:=amC rr (k+1)
      have h2:sep.length*(rr.take (k+1)).length≤100*1000000:=Nat.mul_le_mul hs (by rw [List.length_take];omega)
      omega
     rw [take_snoc het,am5] at hlen
     obtain⟨r5,h5,l5,e5,d5,c5,-,-⟩:=akh db sep (by simp at hlen⊢;omega)
     obtain⟨r6,h6,l6,e6,d6,c6,-,-⟩:=akh d5 t (by simp at hlen⊢;omega)
     simp (disch:=omega) only [vvB,Nat.reduceEqDiff,reduceCtorEq,↓reduceIte,acC,alz,axH,axG,axF,axE,f1,f8,f63,f64,f65,e1,e2 g' rfl,e5,e6]
     refine⟨m - 1,by omega,k+1,l6,qK2 f1,qK2 f8,qK2 f63,qK2 f64,qK1,by omega,?_,(cg.trans c5 fun _ _ q=>q).trans c6 fun _ _ q=>q⟩
     rw [take_snoc het,am5]
     simpa using d6
   ·rintro fr g' ⟨f8,lb,db,cg⟩
    have hj:dV sep (a::rr)≠ []:=by
     rcases hne with hne|hne
     ·rw [hln] at hne;omega
     ·exact hne
    have hjl:(dV sep (a::rr)).length≤1000000000:=by
     have e3:=ae8 sep rr
     rw [Dp,List.length_append,e3,←hw0]
     omega
    have hjb:∀c∈dV sep (a::rr),c<256:=by
     intro x hx
     rw [Dp,List.mem_append] at hx
     rcases hx with hx|hx
     ·exact hb a (by simp) x hx
     ·unfold zT at hx
      obtain⟨y,hy,hxy⟩:=List.mem_flatten.1 hx
      obtain⟨t,ht',rfl⟩:=List.mem_map.1 hy
      rcases List.mem_append.1 hxy with q|q
      ·exact hsb x q
      ·exact hb t (by simp [ht']) x q
    obtain⟨h7,e7,c7,-⟩:=aEz db hj hjb hjl
    simp (disch:=omega) only [vvB,Nat.reduceEqDiff,reduceCtorEq,↓reduceIte,aly,f8,e7]
    refine aU.ret (r:=.str (dV sep (a::rr))) (qT0) ⟨rfl,?_⟩
    exact⟨by have:=cg.next;have:=c7.next;omega,fun j hj hn=>(c7.get j (by have:=cg.next;omega) (by omega)).trans (cg.get j hj (by omega))⟩
   ·intro fr g q;exact q.elim
  ·intro fr g q;exact q.elim
 by_cases hsp:sep.length=0
 ·have:=hmul0 hsp
  simp (disch:=omega) only [vvB,Nat.reduceEqDiff,reduceCtorEq,↓reduceIte,ah8,aah,aag,aaf,ah6,aqN,aqM,sl,hln,hcast]
  exact main _ (qK0) (qK0) (by simp only [vvB,Nat.reduceEqDiff,reduceCtorEq,↓reduceIte];rw [this];rfl)
 ·simp (disch:=omega) only [vvB,Nat.reduceEqDiff,reduceCtorEq,↓reduceIte,ah8,aah,aag,aaf,ah6,aqN,aqM,aB0,axM,sl,hln,hcast,qu,mu]
  simp only [Int.zero_add]
  exact main _ (qK0) (qK0) (qK0)
end Go.Proofs.Im

noncomputable section
namespace Go.Vm
variable{h:Hp}
def abj(k:Int)(t:List Nat)(last bare:Bool):V:=.agg (.cons (.int .i64 k) (.cons (.str t) (.cons (.bool last) (.cons (.bool bare) (.cons (.bool false) .nil)))))
def awd(k:Int)(t:List Nat)(last bare:Bool):List V:= [.int .i64 k,.str t,.bool last,.bool bare,.bool false]
theorem amR(k:Int)(s:List Nat):bK [.int .i64 0,.str [],.bool false,.bool false,.bool false] [(0,1,.int .i64 k),(1,1,.str s)] h=.ok (abj k s false false) h:=(rfl)
theorem aCZ:bK [.int .i64 0,.str [],.bool false,.bool false,.bool false] [] h=.ok (abj 0 [] false false) h:=(rfl)
theorem ahI(t:TypeId):fC t [.int .i64 0,.str [],.bool false,.bool false,.bool false] h=.ok (.ptr h.next 0) (h.new (.cells (.rw t true) [.int .i64 0,.str [],.bool false,.bool false,.bool false])):=(rfl)
theorem aCC{i:Pos}{t:TypeId}{f:Bool}{x y z u v:V}{k:Int}{s:List Nat}{a b:Bool}(hg:h.get i=some (.cells (.rw t f) [x,y,z,u,v])):aO 5 (.ptr i 0) (abj k s a b) h=.ok V.undef (h.put i (some (.cells (.rw t f) (awd k s a b)))):=by
 rw [qm hg rfl rfl]
 rfl
theorem aDc{i:Pos}{wr:Wr}{k:Int}{s:List Nat}{a b:Bool}(hg:h.get i=some (.cells wr (awd k s a b))):bW 5 (.ptr i 0) h=.ok (abj k s a b) h:=by
 show dQ h i (fun _ cs=>match gB 5 (fG 0 cs) with|some l=>R.ok (V.agg (V.ofList l)) h|none=>.bad)=_
 rw [dP (wr:=wr) (all:=awd k s a b) (by rw [hg];rfl)]
 rfl
theorem TW(h:Hp)(o o':Ob):Ch (fun _=>False) h ((h.new o).put h.next (some o')):=
 (Ch.new (fun _=>False) h o).trans (Ch.put (S:=fun j=>j=h.next) _ _ rfl) fun j hj q=>by rw [q] at hj;omega
end Go.Vm
namespace Go.Ln
open Go Go.Vm
theorem Wds.aqa:∀{ws:Wds} {k:Nat},k<ws.len→∃w,ws.get? k=some w
 | .nil,_,h=>absurd h (by simp [Wds.len])
 | .cons k t ks _,0,_=>⟨_,rfl⟩
 | .cons _ _ _ r,n+1,h=>by simp only [Wds.len] at h;exact Wds.aqa (ws:=r) (k:=n) (by omega)
def Wds.drop:Wds→Nat→Wds
 |w,0=>w
 | .nil,_+1=>.nil
 | .cons _ _ _ r,n+1=>r.drop n
theorem Wds.len_drop:∀{ws:Wds} {k:Nat},(ws.drop k).len=ws.len - k
 | .nil,0=>rfl
 | .nil,k+1=>by simp [Wds.drop,Wds.len]
 | .cons _ _ _ _,0=>rfl
 | .cons _ _ _ r,k+1=>by simp only [Wds.drop,Wds.len];rw [Wds.len_drop (ws:=r)];omega
theorem WAt.drop{P:Pos→Prop}{h:Hp}:∀{ws:Wds} {cs:List V} {k:Nat},WAt P h ws cs→WAt P h (ws.drop k) (cs.drop (k*3))
 | .nil,_,0,w=>w
 | .nil,cs,k+1,w=>by rw [show cs= [] from w];simp [Wds.drop,WAt]
 | .cons _ _ _ _,_,0,w=>by simpa [Wds.drop] using w
 | .cons _ _ _ r,_,k+1,⟨vk,ck,cr,e,o,p,a,b⟩=>by
  rw [e,show(k+1)*3=3+k*3 by omega,←List.drop_drop]
  exact WAt.drop (ws:=r) b
def WS(P:Pos→Prop)(h:Hp)(v:V)(ws:Wds):Prop:=∃cs,Sl h.next.nat h 3 v ws.len cs∧jM 3 v∧(∀j,aX v=some j→P j)∧WAt P h ws cs
theorem jI.ws{P:Pos→Prop}{h:Hp}{v:V}{ws:Wds}(t:jI P h v ws):WS P h v ws:=by
 obtain⟨cs,o,p,a⟩:=t
 refine⟨cs,o.sl,?_,p,a⟩
 intro i q n c e
 rcases o.is with⟨_,e'⟩|⟨_,e',_⟩
 ·rw [e'] at e;cases e
 ·rw [e'] at e;cases e;rfl
theorem WS.ch{P P' S:Pos→Prop}{h h':Hp}{v:V}{ws:Wds}(t:WS P h v ws)(c:Ch S h h')(hs:∀j:Pos,j.nat<h.next.nat→P j→P' j∧¬S j):WS P' h' v ws:=by
 obtain⟨cs,o,k,p,a⟩:=t
 exact⟨cs,(o.ch c (Nat.le_refl _) fun j hj=>(hs j (o.dN hj) (p j hj)).2).le c.next,k,fun j hj=>(hs j (o.dN hj) (p j hj)).1,a.ch c hs⟩
theorem WS.len{P:Pos→Prop}{h:Hp}{v:V}{ws:Wds}(t:WS P h v ws)(h':Hp):aY 2 v h'=.ok (.int .i64 (ws.len:Int)) h':=by
 obtain⟨cs,o,-⟩:=t
 exact o.length
theorem WS.cell{P:Pos→Prop}{h:Hp}{v:V}{ws:Wds}(t:WS P h v ws):v.cells= [v]∧gu v=true:=by
 obtain⟨cs,o,-⟩:=t
 exact o.cell
theorem WS.from{P:Pos→Prop}{h:Hp}{v:V}{ws:Wds}(t:WS P h v ws){k:Nat}(hk:k≤ws.len):∃v',(∀h',eX 3 v (some (.int .i64 (k:Int))) none none h'=.ok v' h')∧WS P h v' (ws.drop k):=by
 obtain⟨cs,o,c,p,a⟩:=t
 obtain⟨v',e,s,c',i⟩:=o.from c (by omega) hk
 exact⟨v',e,cs.drop (k*3),by rw [Wds.len_drop];exact s,c',fun j hj=>p j (i j hj),a.drop⟩
def abg(w:Wds)(k:Nat):Bool:=match w.get? k with|some x=>decide (x.kind=1)|none=>false
end Go.Ln
namespace Go.Proofs.Im
open Go Go.Proofs Go.Vm Go.Ln
set_option maxRecDepth 100000
theorem ahY(x:V)(h:Hp):vT Tryz.prog tA x h=bW 5 x h:=by kernel_rfl
theorem WS.at{P:Pos→Prop}{h:Hp}{v:V}{ws:Wds}(t:WS P h v ws){k:Nat}{w:Wd}(e:ws.get? k=some w):
  ∃j q vk,(∀h',bU 3 v (.int .i64 (k:Int)) h'=.ok (.ptr j q) h')∧aF (.ptr j q) h=.ok (.int .i64 w.kind) h∧aF (.ptr j (q+1)) h=.ok (.str w.text) h∧aF (.ptr j (q+2)) h=.ok vk h∧jI P h vk w.kids:=by
 obtain⟨cs,o,-,i,x⟩:=t
 have hk:=Wds.TV e
 obtain⟨j,q,e1,-,e2⟩:=o.at hk
 obtain⟨c0,c1,vk,c2,w1⟩:=WAt.get x e
 exact⟨j,q,vk,e1,e2 h rfl 0 _ (by omega) c0,e2 h rfl 1 _ (by omega) c1,e2 h rfl 2 _ (by omega) c2,w1⟩
theorem aNo{b c:Nat}{h:Hp}{i:Pos}{t:TypeId}{L:List V}{s:List Nat}{v:V}{l:List (List Nat)}(d:Bd b h i 5 t L s)(sl:Sl c h 1 v l.length (l.map V.str))(hcap:jM 1 v)(hc:c≤h.next.nat)
  (hn:l.length≤1000000) (ht:iO l≤100000000) (hb:∀t∈l,∀c∈t,c<256) (hj:l.length≤1∨dV [32] l≠ []) (hs:s.length+(dV [32] l).length+2≤1000000000):
  ∃r h' L',AP [.ptr i 0,v] h=.ok r h'∧Bd b h' i 5 t L' (s++(dV [32] l++ [13,10]))∧Stp (OfB i 5 L) h (OfB i 5 L') h'∧(∀k,k≠5→k≠6→L'[k]?=L[k]?)∧L'.length=L.length:=by
 obtain⟨r1,h1,e1,rfl,c1⟩:=akC sl hcap hc hn (by simp) ht hb (by simp) hj
 have d1:=d.ch c1 fun _ _ _ q=>q
 obtain⟨r2,h2,L2,e2,d2,c2,k2,n2⟩:=Uk d1 (dV [32] l) (by omega)
 obtain⟨r3,h3,L3,e3,d3,c3,k3,n3⟩:=Uk d2 [13,10] (by simp;omega)
 rw [aI8]
 simp (disch:=omega) only [vvB,Nat.reduceEqDiff,reduceCtorEq,↓reduceIte,aDY,aCe,aCd,e1,e2,e3]
 refine⟨_,h3,L3,rfl,by rw [←List.append_assoc];exact d3,(((Stp.refl (OfB i 5 L) h).step c1 fun _ q=>q.elim).trans c2).trans c3,fun k a b=>(k3 k a b).trans (k2 k a b),n3.trans n2⟩
theorem aHb(h:Hp):∃h',atV [] h=.ok (abj 2 [119,111,114,100,115] false false) h'∧Ch (fun _=>False) h h':=by
 rw [aI9]
 simp (disch:=omega) only [vvB,Nat.reduceEqDiff,reduceCtorEq,↓reduceIte,aDZ,aCg,aCf,ahI,amR,aCC (dD _ _)]
 exact⟨_,by simp only [aT,bD,vvB,Nat.reduceEqDiff,reduceCtorEq,↓reduceIte,ahY,aDc (dJ _ _ _),bF];rfl,TW _ _ _⟩
theorem aHm(h:Hp):∃h',aib [] h=.ok (abj 1 [115,116,97,116,101] false false) h'∧Ch (fun _=>False) h h':=by
 rw [aI4]
 simp (disch:=omega) only [vvB,Nat.reduceEqDiff,reduceCtorEq,↓reduceIte,aDV,aBZ,aBY,ahI,amR,aCC (dD _ _)]
 exact⟨_,by simp only [aT,bD,vvB,Nat.reduceEqDiff,reduceCtorEq,↓reduceIte,ahY,aDc (dJ _ _ _),bF];rfl,TW _ _ _⟩
theorem arR{P:Pos→Prop}{h:Hp}{v:V}{w:Wds}(t:WS P h v w)(k:Nat):JO [v,.int .i64 (k:Int)] h=.ok (.bool (abg w k)) h:=by
 rw [aG5]
 by_cases hk:k<w.len
 ·obtain⟨x,hx⟩:=Wds.aqa hk
  obtain⟨j,q,vk,e1,e2,e3,e4,w1⟩:=WS.at t hx
  simp (disch:=omega) only [vvB,Nat.reduceEqDiff,reduceCtorEq,↓reduceIte,ao7,alT,alS,WS.len t,e1,e2,Nat.add_zero]
  simp only [aT,bD,vvB,Nat.reduceEqDiff,reduceCtorEq,↓reduceIte,bF]
  unfold abg
  rw [hx]
 ·simp (disch:=omega) only [vvB,Nat.reduceEqDiff,reduceCtorEq,↓reduceIte,ao7,alT,alS,WS.len t]
  simp only [aT,bD,vvB,Nat.reduceEqDiff,reduceCtorEq,↓reduceIte,bF]
  unfold abg
  cases hx:w.get? k with
  |none=>rfl
  |some x=>exact absurd (Wds.TV hx) hk
end Go.Proofs.Im

noncomputable section
namespace Go.Vm
variable{h:Hp}
theorem qK(t:TypeId)(a:List Nat):bI t [.str []] 1 [(0,1,.str a)] h=.ok (.slice h.next 0 1 (.kn 1)) (h.new (.cells (.rw t true) [.str a])):=(rfl)
theorem apT(t:TypeId)(a b:List Nat):bI t [.str [],.str []] 2 [(0,1,.str a),(1,1,.str b)] h=.ok (.slice h.next 0 2 (.kn 2)) (h.new (.cells (.rw t true) [.str a,.str b])):=(rfl)
theorem apS(t:TypeId)(a b c d:List Nat):bI t [.str [],.str [],.str [],.str []] 4 [(0,1,.str a),(1,1,.str b),(2,1,.str c),(3,1,.str d)] h=.ok (.slice h.next 0 4 (.kn 4)) (h.new (.cells (.rw t true) [.str a,.str b,.str c,.str d])):=(rfl)
theorem Sl.aJj{el:TypeId}{h:Hp}(l:List V){n:Nat}(hn:l.length=n):Sl (h.next.nat+1) (h.new (.cells (.rw el true) l)) 1 (.slice h.next 0 n (.kn n)) n l:=⟨by omega,.inr ⟨h.next,0,_,.rw el true,l,rfl,by omega,by rw [dD];rfl,fun k _=>by rw [Nat.zero_add]⟩⟩
theorem anj{i:Pos}{n:Nat}:jM 1 (.slice i 0 n (.kn n)):=fun _ _ _ _ e=>by cases e;exact Nat.le_refl _
end Go.Vm
namespace Go.Proofs.Im
open Go Go.Proofs Go.Vm Go.Ln
set_option maxRecDepth 100000
def aDH(n:Nat)(v:V):V:=if n=0 then v else abj 2 [119,111,114,100,115] false false
theorem az7{b:Nat}{h:Hp}{i:Pos}{t el:TypeId}{L:List V}{s:List Nat}(d:Bd b h i 5 t L s)(l:List (List Nat)){n:Nat}(hn:l.length=n)(hl:n≤100)
  (ht:iO l≤100000000) (hb:∀t∈l,∀c∈t,c<256) (hj:n≤1∨dV [32] l≠ []) (hs:s.length+(dV [32] l).length+2≤1000000000):
  ∃r h' L',AP [.ptr i 0,.slice h.next 0 n (.kn n)] (h.new (.cells (.rw el true) (l.map V.str)))=.ok r h'∧Bd b h' i 5 t L' (s++(dV [32] l++ [13,10]))∧Stp (OfB i 5 L) h (OfB i 5 L') h'∧(∀k,k≠5→k≠6→L'[k]?=L[k]?)∧L'.length=L.length:=by
 subst hn
 have c1:Ch (fun _=>False) h (h.new (.cells (.rw el true) (l.map V.str))):=Ch.new _ _ _
 obtain⟨r,h',L',e,d',c',k',n'⟩:=aNo (d.ch c1 fun _ _ _ q=>q) (Sl.aJj (el:=el) (h:=h) (l.map V.str) (by simp)) anj (by rw [aZ];omega) (by omega) ht hb hj hs
 exact⟨r,h',L',e,d',((Stp.refl (OfB i 5 L) h).step c1 fun _ q=>q.elim).trans c',k',n'⟩
def atE(n:Nat)(t:List Nat):List Nat:=if n=0 then t++ [13,10] else []
theorem aFu{P:Pos→Prop}{b:Nat}{h:Hp}{i:Pos}{t:TypeId}{L:List V}{s:List Nat}{c vw:V}{w:Wds}(d:Bd b h i 5 t L s)(h3:L[3]?=some vw)(tw:WS P h vw w)(hs:s.length≤100000000):
  ∃r h' L',aEl [c,.ptr i 0] h=.ok r h'∧r=aDH w.len (abj 0 [] false false)∧Bd b h' i 5 t L' (s++atE w.len [42,32,67,65,80,65,66,73,76,73,84,89,32,73,77,65,80,52,114,101,118,49,32,76,73,84,69,82,65,76,43,32,85,73,68,80,76,85,83,32,77,79,86,69,32,67,79,78,68,83,84,79,82,69])∧Stp (OfB i 5 L) h (OfB i 5 L') h'∧(∀k,k≠5→k≠6→L'[k]?=L[k]?)∧L'.length=L.length:=by
 obtain⟨h1,hh1⟩:∃h1,h1=h.new (.cells (.rw tA true) [.int .i64 0,.str [],.bool false,.bool false,.bool false]):=⟨_,rfl⟩
 have c1:Ch (fun _=>False) h h1:=by rw [hh1];exact Ch.new _ _ _
 have g1:h1.get h.next=some (.cells (.rw tA true) [.int .i64 0,.str [],.bool false,.bool false,.bool false]):=by rw [hh1];exact dD _ _
 have n1:h1.next.nat=h.next.nat+1:=by rw [hh1,aZ]
 have d1:=d.ch c1 fun _ _ _ q=>q
 have L3:aF (.ptr i 3) h1=.ok vw h1:=by rw [gy d1.get];simp only [h3]
 have no:∀{l:List V},OfB i 5 L h.next→False:=fun o=>by have:=(o.from d _).2;omega
 have fin:∀{h2:Hp} {l:List V},Stp (OfB i 5 L) h (OfB i 5 l) h2→∀o,Stp (OfB i 5 L) h (OfB i 5 l) (h2.put h.next o):=fun c2 o=>⟨c2.ch.trans (Ch.put (S:=fun j=>j=h.next) _ _ rfl) fun j hj q=>by rw [q] at hj;omega,c2.sub⟩
 have c1':Stp (OfB i 5 L) h (OfB i 5 L) h1:=(Stp.refl _ _).step c1 fun _ q=>q.elim
 rw [aJc]
 suffices hT:aU Tryz.prog [.cell 4 tA] (fun r h'=>∃L',r=aDH w.len (abj 0 [] false false)∧Bd b h' i 5 t L' (s++atE w.len [42,32,67,65,80,65,66,73,76,73,84,89,32,73,77,65,80,52,114,101,118,49,32,76,73,84,69,82,65,76,43,32,85,73,68,80,76,85,83,32,77,79,86,69,32,67,79,78,68,83,84,79,82,69])∧Stp (OfB i 5 L) h (OfB i 5 L') h'∧(∀k,k≠5→k≠6→L'[k]?=L[k]?)∧L'.length=L.length) (ao4 (T.set (some (.ptr i 0)) (Pos.of 1) T.nil) h) by
  obtain⟨r,h',e,L',q⟩:=hT
  exact⟨r,h',L',e,q⟩
 by_cases hw:w.len=0
 ·obtain⟨r2,h2,L2,e2,d2,c2,k2,n2⟩:=az7 (el:=9) d1 [[42,32,67,65,80,65,66,73,76,73,84,89,32,73,77,65,80,52,114,101,118,49,32,76,73,84,69,82,65,76,43,32,85,73,68,80,76,85,83,32,77,79,86,69,32,67,79,78,68,83,84,79,82,69]] (n:=1) rfl (by omega) (by simp [iO]) (by simp) (.inl (Nat.le_refl _)) (by simp [dV];omega)
  have g2:=(c2.ch.get h.next (by omega) fun o=>no (l:=L) o).trans g1
  simp only [List.map_cons,List.map_nil] at e2
  simp (disch:=omega) only [vvB,Nat.reduceEqDiff,reduceCtorEq,↓reduceIte,ao4,aqU,aqT,aCp,aCo,ahI,←hh1,L3,WS.len tw,hw,qK,e2,aCZ,aCC g2]
  refine aU.ret (by simp only [bD,vvB,Nat.reduceEqDiff,reduceCtorEq,↓reduceIte,ahY,aDc (dJ _ _ _),bF];rfl) ⟨L2,?_,?_,fin (c1'.trans c2) _,k2,n2⟩
  ·unfold aDH;rw [if_pos rfl]
  ·have d3:=d2.chO (Ch.put (S:=fun j=>j=h.next) h2 (some (.cells (.rw tA true) (awd 0 [] false false))) rfl) fun j o e=>by
    subst e
    rcases c2.sub _ o with o|o
    ·exact no (l:=L) o
    ·omega
   unfold atE;rw [if_pos rfl]
   simpa [dV] using d3
 ·obtain⟨h2,e2,c2⟩:=aHb h1
  have g2:=(c2.get h.next (by omega) fun q=>q).trans g1
  simp (disch:=omega) only [vvB,Nat.reduceEqDiff,reduceCtorEq,↓reduceIte,ao4,aqU,aqT,aCq,ahI,←hh1,L3,WS.len tw,e2,aCC g2]
  refine aU.ret (by simp only [bD,vvB,Nat.reduceEqDiff,reduceCtorEq,↓reduceIte,ahY,aDc (dJ _ _ _),bF];rfl) ⟨L,?_,?_,fin (c1'.step c2 fun _ q=>q.elim) _,fun _ _ _=>rfl,rfl⟩
  ·unfold aDH;rw [if_neg hw]
  ·have d3:=(d1.ch c2 fun _ _ _ q=>q).chO (Ch.put (S:=fun j=>j=h.next) h2 (some (.cells (.rw tA true) (awd 2 [119,111,114,100,115] false false))) rfl) fun j o e=>by
    subst e
    exact no (l:=L) o
   unfold atE;rw [if_neg hw]
   simpa using d3
end Go.Proofs.Im
