/- Part of the value machine, or of a walk by it: lemmas that the claim's last text uses. No conditions. -/
import Derived.Test.YtpgppmioigacoaaGreatDoorSlAR
import Derived.Test.YtpgppmioigacoaaGreatDoorSlAQ
set_option linter.unusedVariables false
set_option linter.unusedSimpArgs false
set_option linter.unnecessarySimpa false
noncomputable section
namespace Go.Proofs.Im
open Go Go.Proofs Go.Vm Go.Im
set_option maxRecDepth 100000
variable{h h':Hp}{F I:Pos→Prop}{ps pl ib p:Pos}{A:Acc}{cb:Cap}{fb:Bool}{vm vl:V}
theorem XO{w:Wr}{cs:List V}{q:Nat}{n:Int}(k:Kn h p (.cells w cs))(hq:cs[q]?=some (iV n)):xg [.ptr p q] h=.ok (iV n) h:=by
 have e:=azf k hq
 rw [ayH]
 simp only [vvB,Nat.reduceEqDiff,reduceCtorEq,↓reduceIte,ag9,aj0,ajZ,Np,Nat.add_zero,e]
 simp only [aT,bD,vvB,Nat.reduceEqDiff,reduceCtorEq,↓reduceIte,bF]
theorem TQ{t:TypeId}{f:Bool}{cs:List V}{q:Nat}{n:Int}(k:Kn h p (.cells (.rw t f) cs))(hq:q<cs.length):∃u,qE [.ptr p q,iV n] h=.ok u (h.put p (some (.cells (.rw t f) (cs.set q (iV n))))):=by
 have e:=av9 (n:=n) k hq
 rw [atz]
 simp only [vvB,Nat.reduceEqDiff,reduceCtorEq,↓reduceIte,acs,agM,JL,Nat.add_zero,e]
 exact⟨_,rfl⟩
theorem ayM{t:TypeId}{f:Bool}{cs:List V}{q:Nat}{n m:Int}(k:Kn h p (.cells (.rw t f) cs))(hq:cs[q]?=some (iV n))(h1: -9223372036854775808≤n+m)(h2:n+m<9223372036854775808):
  aax [.ptr p q,iV m] h=.ok (iV (n+m)) (h.put p (some (.cells (.rw t f) (cs.set q (iV (n+m)))))):=by
 have e:=aDE k hq h1 h2
 rw [aG4]
 simp only [vvB,Nat.reduceEqDiff,reduceCtorEq,↓reduceIte,ayd,ax8,ax7,ayK,Nat.add_zero,e]
 simp only [aT,bD,vvB,Nat.reduceEqDiff,reduceCtorEq,↓reduceIte,bF]
theorem anP(a:dL h F ps A pl ib cb fb vm vl I):JI [.ptr ps 0] h=.ok (iV A.clock) h:=by
 have e:=XO a.st (q:=9) rfl
 rw [ato]
 simp only [vvB,Nat.reduceEqDiff,reduceCtorEq,↓reduceIte,acg,agb,aga,af9,fF,e]
 simp only [aT,bD,vvB,Nat.reduceEqDiff,reduceCtorEq,↓reduceIte,bF]
theorem asj(a:dL h F ps A pl ib cb fb vm vl I)(hA:A.Small):PN [.ptr ps 0] h=.ok (.bool false) h:=by
 have e:=anP a
 have L:=a.st.ld (q:=6) (x:=iV 1073741824) rfl
 have hc:=hA.clock
 rw [ayy]
 simp only [vvB,Nat.reduceEqDiff,reduceCtorEq,↓reduceIte,ag0,ajl,ajk,e,L,Bl rfl L]
 simp only [aT,bD,vvB,Nat.reduceEqDiff,reduceCtorEq,↓reduceIte,bF]
 rw [decide_eq_false (by omega)]
theorem asi(a:dL h F ps A pl ib cb fb vm vl I)(hA:A.Small):
  PL [.ptr ps 0] h=.ok (iV (A.clock+1)) (h.put ps (some (.cells (.rw tSt true) (stC {A with clock:=A.clock+1} ib cb vm pl)))):=by
 have hc:=hA.clock
 have e:=ayM a.st (q:=9) (n:=A.clock) (m:=1) rfl (by omega) (by omega)
 rw [ayw]
 simp only [vvB,Nat.reduceEqDiff,reduceCtorEq,↓reduceIte,agY,aje,ajd,e]
 simp only [aT,bD,vvB,Nat.reduceEqDiff,reduceCtorEq,↓reduceIte,bF]
 rfl
theorem dL.amA(a:dL h F ps A pl ib cb fb vm vl I){B:Acc}(hb:B.boxes=A.boxes)(hm:B.mails=A.mails)(he:B.ents=A.ents)(hf:B.floor=A.floor):
  dL (h.put ps (some (.cells (.rw tSt true) (stC B ib cb vm pl)))) F ps B pl ib cb fb vm vl I:=by
 have c:Ch (fun j=>j=ps) h (h.put ps (some (.cells (.rw tSt true) (stC B ib cb vm pl)))):=Ch.put _ _ rfl
 have ne:=a.ne
 refine⟨a.st.put _,?_,?_,by rw [hb];exact a.cap,?_,?_,a.ne,a.nm,a.nl,a.inn,a.foot,a.lt,by rw [he];exact a.enil⟩
 ·rw [hf];exact a.lg.ch c fun e=>ne.1 e.symm
 ·rw [hb];exact a.bx.ch c fun e=>ne.2.1 e.symm
 ·rw [hm]
  obtain⟨css,x,hw,r⟩:=a.ml
  refine⟨css,x.mono fun _ _ e=>dw e c fun j _ q=>⟨q,fun e=>(a.inn j q).2.1 e⟩,hw,r.imp id fun⟨i,f,rest,e,k⟩=>⟨i,f,rest,e,k.ch c fun e'=>?_⟩⟩
  exact(a.nm i (by rw [e];rfl)).1 e'
 ·rw [he]
  obtain⟨css,x,hw,s⟩:=a.en
  exact⟨css,x.mono fun _ _ e=>e,hw,s.ch c fun j hj e=>(a.nl j hj).1 e⟩
theorem Io(a:dL h F ps A pl ib cb fb vm vl I)(hA:A.Small):
  ∃r h',yw [.ptr ps 0] h=.ok r h'∧Rws (fun j=>h.next.nat≤j.nat) (flat fQ) 6 h' r A.boxes∧Nw h h'∧dA h.next.nat (fun _=>False) (flat fQ) tBx 6 h' r A.boxes:=by
 have L:=a.st.ld (q:=10) rfl
 have hb:=hA.boxes
 obtain⟨r,h1,e1,r1,c1,o1⟩:=azU a.bxr (by omega)
 rw [atp]
 simp only [vvB,Nat.reduceEqDiff,reduceCtorEq,↓reduceIte,ach,agf,agd,agc,fF,L,e1]
 refine⟨r,h1,by simp only [aT,bD,vvB,Nat.reduceEqDiff,reduceCtorEq,↓reduceIte,bF],r1,c1,?_⟩
 rcases o1 with o1|o1
 ·rw [o1] at hb;simp at hb
 ·exact o1
abbrev zMl:List V:= [(.int .i64 0),(.int .i64 0),(.str []),(.int .i64 0),.aG,.aG,(.int .i64 0),(.int .i64 0)]
theorem aKl(x:V)(h:Hp):vT Tryz.prog tMl x h=bW 8 x h:=by kernel_rfl
theorem aFp{P:Pos→Prop}{m:Ml}{vk vm:V}(e:kG P h m (dM m vk vm))(hk:m.keys.length≤1000)(hm:m.mem.length≤1000):
  ∃h' vk' vm',NV [.agg (V.ofList (dM m vk vm))] h=.ok (.agg (V.ofList (dM m vk' vm'))) h'∧Nw h h'∧kG (fun j=>h.next.nat≤j.nat) h' m (dM m vk' vm'):=by
 obtain⟨vk0,vm0,hC,rk,rm⟩:=e
 obtain⟨rfl,rfl⟩:vk=vk0∧vm=vm0:=by unfold dM at hC;injection hC with _ hC;injection hC with _ hC;injection hC with _ hC;injection hC with _ hC;injection hC with a hC;injection hC with b hC;exact⟨a,b⟩
 obtain⟨h1,hh1,c1,k1⟩:=mkW h (.cells (.rw tMl true) (dM m vk vm))
 have n1:h1.next.nat=h.next.nat+1:=by rw [hh1,aZ]
 obtain⟨h2,hh2,c2,z2⟩:=mkW h1 (.cells (.rw tMl true) zMl)
 have n2:h2.next.nat=h1.next.nat+1:=by rw [hh2,aZ]
 have k2:=k1.nw c2
 obtain⟨vk',h3,e3,r3,c3,-⟩:=aaz (rk.nw (aQ _) (c1.trans c2)) (by omega)
 have k3:=k2.nw c3
 obtain⟨vm',h4,e4,r4,c4,-⟩:=ard (rm.nw (aQ _) ((c1.trans c2).trans c3)) (by omega)
 have k4:=k3.nw c4
 have z4:=(z2.nw c3).nw c4
 have L1:=k2.ld (q:=4) (x:=vk) rfl
 have L2:=k3.ld (q:=5) (x:=vm) rfl
 have L2':=k2.ld (q:=5) (x:=vm) rfl
 have n3:=c3.next
 have n4:=c4.next
 obtain⟨h5,hh5⟩:∃h5,h5=h4.put h.next (some (.cells (.rw tMl true) (dM m vk' vm))):=⟨_,rfl⟩
 have S5:aO 1 (.ptr h.next 4) vk' h4=.ok V.undef h5:=by rw [hh5];exact k4.st (q:=4) r3.cell (show 4<8 by omega)
 have k5:Kn h5 h.next (.cells (.rw tMl true) (dM m vk' vm)):=by rw [hh5];exact k4.put _
 have c5:Nw h h5:=by rw [hh5];exact(((c1.trans c2).trans c3).trans c4).put (Nat.le_refl _) _
 have z5:Kn h5 h1.next (.cells (.rw tMl true) zMl):=by rw [hh5];exact z4.Oi (fun e=>by have:=congrArg Pos.nat e;omega) _
 obtain⟨h6,hh6⟩:∃h6,h6=h5.put h.next (some (.cells (.rw tMl true) (dM m vk' vm'))):=⟨_,rfl⟩
 have S6:aO 1 (.ptr h.next 5) vm' h5=.ok V.undef h6:=by rw [hh6];exact k5.st (q:=5) r4.cell (show 5<8 by omega)
 have k6:Kn h6 h.next (.cells (.rw tMl true) (dM m vk' vm')):=by rw [hh6];exact k5.put _
 have z6:Kn h6 h1.next (.cells (.rw tMl true) zMl):=by rw [hh6];exact z5.Oi (fun e=>by have:=congrArg Pos.nat e;omega) _
 have L6:=k6.ldN (n:=8) rfl
 obtain⟨h7,hh7⟩:∃h7,h7=h6.put h1.next (some (.cells (.rw tMl true) (dM m vk' vm'))):=⟨_,rfl⟩
 have S7:aO 8 (.ptr h1.next 0) (.agg (V.ofList (dM m vk' vm'))) h6=.ok V.undef h7:=by rw [hh7];exact z6.stN rfl rfl
 have z7:Kn h7 h1.next (.cells (.rw tMl true) (dM m vk' vm')):=by rw [hh7];exact z6.put _
 have c7:Nw h h7:=by rw [hh7,hh6];exact(c5.put (Nat.le_refl _) _).put (by omega) _
 have c47:Ch (fun j=>j=h.next∨j=h1.next) h4 h7:=by
  rw [hh7,hh6,hh5]
  exact((Ch.put (S:=fun j=>j=h.next∨j=h1.next) _ _ (.inl rfl)).trans (Ch.put (S:=fun j=>j=h.next∨j=h1.next) _ _ (.inl rfl)) fun _ _ q=>q).trans (Ch.put (S:=fun j=>j=h.next∨j=h1.next) _ _ (.inr rfl)) fun _ _ q=>q
 rw [aq5]
 simp only [vvB,Nat.reduceEqDiff,reduceCtorEq,↓reduceIte,YJ,adF,adE,adD,V.dF,←hh1,←hh2,L1,e3,L2,Bl rm.noF L2',e4,S5,S6,L6,S7]
 refine⟨h7,vk',vm',by simp only [aT,bD,vvB,Nat.reduceEqDiff,reduceCtorEq,↓reduceIte,aKl,z7.ldN (n:=8) rfl,bF],c7,vk',vm',rfl,?_,?_⟩
 ·exact r3.ch (P':=fun j=>h.next.nat≤j.nat) (aQ _) (c4.ch.trans c47 fun _ _ q=>q) fun j _ q=>⟨by omega,fun e=>by rcases e with rfl|rfl<;>omega⟩
 ·exact r4.ch (P':=fun j=>h.next.nat≤j.nat) (aQ _) c47 fun j _ q=>⟨by omega,fun e=>by rcases e with rfl|rfl<;>omega⟩
end Go.Proofs.Im

noncomputable section
namespace Go.Proofs.Im
open Go Go.Proofs Go.Vm Go.Im
set_option maxRecDepth 100000
variable{h h' g:Hp}{F I:Pos→Prop}{ps pl ib:Pos}{A:Acc}{cb:Cap}{fb:Bool}{vm vl:V}
theorem aQb(m:Ml)(vk vm:V)(h:Hp):bI tMl zMl 1 [(0,8,.agg (V.ofList (dM m vk vm)))] h=.ok (.slice h.next 0 1 (.kn 1)) (h.new (.cells (.rw tMl true) (dM m vk vm))):=(rfl)
theorem abE(a:dL h F ps A pl ib cb fb vm vl I)(hA:A.Small):
  ∃r h',Dz [.ptr ps 0] h=.ok r h'∧gY h.next.nat kG tMl 8 h' r A.mails∧Nw h h':=by
 have L:=a.st.ld (q:=11) (x:=vm) rfl
 have R:=a.ml.rws
 have hn:=hA.mails
 rw [atm]
 show aU Tryz.prog _ (fun r h'=>gY h.next.nat kG tMl 8 h' r A.mails∧Nw h h') _
 simp only [vvB,Nat.reduceEqDiff,reduceCtorEq,↓reduceIte,ace,af6,af5,af4,af2,ahi,fF,L,R.len]
 refine Oc.then (dY (σ:=V) (n:=A.mails.length) (pi:=13) (pn:=12) (pc:=14) [3,11] (fun v=> [v,vm]) (fun k v g=>Nw h g∧gY h.next.nat kG tMl 8 g v (A.mails.take k))
  (A:=fun fr g=>∃v,fr.get (Pos.of 3)=some v∧Nw h g∧gY h.next.nat kG tMl 8 g v A.mails) (B:=fun fr g=>False) (s:=.aG)
  (fun fr h _ k e1 e2=>by simp only [vvB,Nat.reduceEqDiff,reduceCtorEq,↓reduceIte,af0,e1,e2]) (fun fr h k _ e1=>by simp (disch:=omega) only [vvB,Nat.reduceEqDiff,reduceCtorEq,↓reduceIte,afX,e1]) (by decide) (by rw [dS];omega) (qK0) (qK0) (by simp only [Fa,vvB,Nat.reduceEqDiff,reduceCtorEq,↓reduceIte,and_self]) ⟨Nw.refl _,gY.nil _ _ _ _ _⟩ ?_ ?_) ?_ ?_
 ·intro k v fr g hk f13 f12 fa hI
  obtain⟨f3,f11,-⟩:=fa
  obtain⟨c,o⟩:=hI
  obtain⟨m,hm⟩:∃m,A.mails[k]?=some m:=⟨_,List.getElem?_eq_getElem hk⟩
  obtain⟨i,q,cs,e1,⟨vk,vs,rfl,rk,rs⟩,-,-,-,-,e3⟩:=(R.nw dw c).elt hm
  have e3':=e3 g rfl
  have hsm:=hA.each m (List.mem_of_getElem? hm)
  obtain⟨g2,hg2⟩:∃g2,g2=g.new (.cells (.rw tMl true) (dM m vk vs)):=⟨_,rfl⟩
  have S2:aO 8 (.ptr g.next 0) (.agg (V.ofList (dM m vk vs))) (g.new (.cells (.rw tMl true) zMl))=.ok V.undef g2:=by rw [hg2];exact iF (V.dO _) rfl rfl
  have c2:Nw g g2:=by rw [hg2];exact Nw.new _ _
  have k2:Kn g2 g.next (.cells (.rw tMl true) (dM m vk vs)):=by rw [hg2];exact Kn.new _ _
  have n2:g2.next.nat=g.next.nat+1:=by rw [hg2,aZ]
  obtain⟨g3,vk',vs',e4,c3,x3⟩:=aFp (show kG _ g2 m (dM m vk vs) from⟨vk,vs,rfl,rk.nw (aQ _) c2,rs.nw (aQ _) c2⟩) hsm.1 hsm.2
  have o3:=o.nw dw (c2.trans c3)
  have hcn:=c.next
  have hn3:=c3.next
  obtain⟨v',g4,e5,o5,c5,n5,-⟩:=o3.app (bt:=104) dw (by omega) (cs:=dM m vk' vs') rfl x3 (fun j _ q=>⟨by omega,fun e=>by have:=(o.dN e).2;omega⟩) (by rw [List.length_take];omega)
  simp only [vvB,Nat.reduceEqDiff,reduceCtorEq,↓reduceIte,afZ,afY,f3,f11,f13,e1,e3',S2,k2.ldN (n:=8) rfl,e4,aQb,e5]
  refine⟨qK2 f13,qK2 f12,v',by simp only [Fa,vvB,Nat.reduceEqDiff,reduceCtorEq,↓reduceIte,f11,and_self],?_,?_⟩
  ·exact((c.trans c2).trans c3).own c5 fun j e=>(o.dN e).1
  ·rw [take_snoc hm];exact o5
 ·intro v fr g fa hI
  obtain⟨f3,f11,-⟩:=fa
  obtain⟨c,o⟩:=hI
  rw [List.take_length] at o
  exact⟨v,f3,c,o⟩
 ·rintro fr g ⟨v,f3,c,o⟩
  simp only [vvB,Nat.reduceEqDiff,reduceCtorEq,↓reduceIte,afW,f3]
  exact aU.ret (r:=v) (qT0) ⟨o,c⟩
 ·intro fr g q;exact q.elim
end Go.Proofs.Im

noncomputable section
namespace Go.Proofs.Im
open Go Go.Proofs Go.Vm Go.Im
set_option maxRecDepth 100000
variable{h h' g:Hp}{P:Pos→Prop}{pl p:Pos}{A:Acc}{vl:V}
abbrev zEn:List V:= [(.int .i64 0),(.int .i64 0),(.int .i64 0),(.int .i64 0)]
theorem aQl(x:En):fD tEn zEn 1 [(0,4,.agg (V.ofList (iI x)))]=some (.cells (.rw tEn true) (iI x),fun p=>.slice p 0 1 (.kn 1)):=(rfl)
theorem axA{v:V}{fl c:Int}{ents es:List En}(lg:Kn h pl (.cells (.rw tLg true) [iV 10000,vl,iV fl]))(o:dA 0 (fun _=>False) (flat iI) tEn 4 h vl ents)(r:Rws P (flat iI) 4 h v es)
  (hne:∀j,aX vl=some j→j≠pl) (hP:∀j:Pos,j.nat<h.next.nat→P j→j≠pl∧aX vl≠some j) (hc:∀e∈es,e.mod=c) (hl:∀e∈ents,e.mod≤c) (hn:ents.length+es.length≤10000):
  ∃u h' vl',Nl [.ptr pl 0,v] h=.ok u h'∧Kn h' pl (.cells (.rw tLg true) [iV 10000,vl',iV fl])∧dA 0 (fun _=>False) (flat iI) tEn 4 h' vl' (ents++es)∧Ch (fun j=>j=pl∨aX vl=some j) h h'∧
   (∀j,aX vl'=some j→aX vl=some j∨h.next.nat≤j.nat):=by
 rw [azQ]
 suffices T:aU Tryz.prog [] (fun u h'=>∃vl',Kn h' pl (.cells (.rw tLg true) [iV 10000,vl',iV fl])∧dA 0 (fun _=>False) (flat iI) tEn 4 h' vl' (ents++es)∧Ch (fun j=>j=pl∨aX vl=some j) h h'∧(∀j,aX vl'=some j→aX vl=some j∨h.next.nat≤j.nat))
   (acj (T.set (some v) (Pos.of 1) (T.set (some (.ptr pl 0)) (Pos.of 0) T.nil)) h) by
  obtain⟨u,h',e,vl',q⟩:=T
  exact⟨u,h',vl',e,q⟩
 simp only [vvB,Nat.reduceEqDiff,reduceCtorEq,↓reduceIte,acj,aoS,aoR,apk,fF,r.len]
 have hpl:=lg.2
 refine Oc.then (dY (σ:=V) (n:=es.length) (pi:=12) (pn:=11) (pc:=13) [0,10] (fun _=> [.ptr pl 0,v])
  (fun k w g=>Kn g pl (.cells (.rw tLg true) [iV 10000,w,iV fl])∧dA 0 (fun _=>False) (flat iI) tEn 4 g w (ents++es.take k)∧Ch (fun j=>j=pl∨aX vl=some j) h g∧(∀j,aX w=some j→(aX vl=some j∨h.next.nat≤j.nat)∧j≠pl))
  (A:=fun fr g=>fr.get (Pos.of 0)=some (.ptr pl 0)∧∃w,Kn g pl (.cells (.rw tLg true) [iV 10000,w,iV fl])∧dA 0 (fun _=>False) (flat iI) tEn 4 g w (ents++es)∧Ch (fun j=>j=pl∨aX vl=some j) h g∧(∀j,aX w=some j→aX vl=some j∨h.next.nat≤j.nat)) (B:=fun _ _=>False) (s:=vl)
  (fun fr h _ k e1 e2=>by simp only [vvB,Nat.reduceEqDiff,reduceCtorEq,↓reduceIte,aoQ,e1,e2]) (fun fr h k _ e1=>by simp (disch:=omega) only [vvB,Nat.reduceEqDiff,reduceCtorEq,↓reduceIte,aoP,e1]) (by decide) (by rw [dS];omega) (qK0) (qK0) (by simp only [Fa,vvB,Nat.reduceEqDiff,reduceCtorEq,↓reduceIte,and_self])
  ⟨lg,by simpa using o,Ch.refl _ _,fun j q=>⟨.inl q,hne j q⟩⟩ ?_ ?_) ?_ ?_
 ·intro k w fr g hk f12 f11 fa hI
  obtain⟨f0,f10,-⟩:=fa
  obtain⟨kg,og,cg,hw⟩:=hI
  obtain⟨x,hx⟩:∃x,es[k]?=some x:=⟨_,List.getElem?_eq_getElem hk⟩
  have hxm:=hc x (List.mem_of_getElem? hx)
  obtain⟨i,q,cs,e1,e2,-,-,-,-,e3⟩:=(r.ch (P':=P) (aQ _) cg fun j hj pj=>⟨pj,fun e=>e.elim (hP j hj pj).1 (hP j hj pj).2⟩).elt hx
  obtain rfl:cs=iI x:=e2
  have e3':=e3 g rfl
  obtain⟨g2,hg2⟩:∃g2,g2=g.new (.cells (.rw tEn true) (iI x)):=⟨_,rfl⟩
  have S2:aO 4 (.ptr g.next 0) (.agg (V.ofList (iI x))) (g.new (.cells (.rw tEn true) zEn))=.ok V.undef g2:=by rw [hg2];exact iF (V.dO _) rfl rfl
  have c2:Nw g g2:=by rw [hg2];exact Nw.new _ _
  have k2:Kn g2 g.next (.cells (.rw tEn true) (iI x)):=by rw [hg2];exact Kn.new _ _
  have kg2:=kg.nw c2
  have L2:=kg2.ld (q:=1) (x:=w) rfl
  have M2:=k2.ld (q:=0) (x:=iV x.mod) rfl
  have o2:=og.nw (aQ _) c2
  have hlen:(ents++es.take k).length=ents.length+k:=by simp;omega
  have ol:=o2.len g2
  rw [hlen] at ol
  obtain⟨w',g3,e5,o5,c5,n5,hw5⟩:=o2.awc (bt:=32) (x:=x) (Nat.zero_le _) rfl (by rw [hlen];omega)
  have k5:=kg2.ch c5 fun e=>(hw pl e).2 rfl
  obtain⟨g4,hg4⟩:∃g4,g4=g3.put pl (some (.cells (.rw tLg true) [iV 10000,w',iV fl])):=⟨_,rfl⟩
  have S4:aO 1 (.ptr pl 1) w' g3=.ok V.undef g4:=by rw [hg4];exact k5.st (q:=1) o5.cell (show 1<3 by omega)
  have k4:Kn g4 pl (.cells (.rw tLg true) [iV 10000,w',iV fl]):=by rw [hg4];exact k5.put _
  have c4:Ch (fun j=>j=pl) g3 g4:=by rw [hg4];exact Ch.put _ _ rfl
  have hcn:=cg.next
  have n2:=c2.next
  have L2b:=(kg2.bump 1).ld (q:=1) (x:=w) rfl
  have N2b:=(k2.bump 1).ldN (n:=4) rfl
  have fin:Rd [0,10] (fun(_:V)=> [V.ptr pl 0,v]) 12 11 k es.length (fun w g=>Kn g pl (.cells (.rw tLg true) [iV 10000,w,iV fl])∧dA 0 (fun _=>False) (flat iI) tEn 4 g w (ents++es.take (k+1))∧Ch (fun j=>j=pl∨aX vl=some j) h g∧(∀j,aX w=some j→(aX vl=some j∨h.next.nat≤j.nat)∧j≠pl))
    (fun fr g=>fr.get (Pos.of 0)=some (.ptr pl 0)∧∃w,Kn g pl (.cells (.rw tLg true) [iV 10000,w,iV fl])∧dA 0 (fun _=>False) (flat iI) tEn 4 g w (ents++es)∧Ch (fun j=>j=pl∨aX vl=some j) h g∧(∀j,aX w=some j→aX vl=some j∨h.next.nat≤j.nat)) (fun _ _=>False) 0
    (wF 1 (abN (T.set (some (.bool false)) (Pos.of 36) (T.set (some (.int .i64 ((ents.length+k:Nat):Int))) (Pos.of 6) (T.set (some (.ptr g.next 0)) (Pos.of 5) fr))) g2)):=by
   simp only [vvB,Nat.reduceEqDiff,reduceCtorEq,↓reduceIte,abN,f0,L2b,N2b,aQl,e5,S4]
   refine⟨qK2 f12,qK2 f11,w',by simp only [Fa,vvB,Nat.reduceEqDiff,reduceCtorEq,↓reduceIte,f0,f10,and_self],k4,?_,?_,?_⟩
   ·rw [take_snoc hx,←List.append_assoc]
    exact o5.ch (aQ _) c4 (fun j hj e=>by have:=hw5 j hj;rw [e] at this;omega) fun _ _ q=>q.elim
   ·exact((cg.nw c2).trans c5 fun j hj e=>by have:=(hw j e).1;rcases this with q|q;exact .inr q;omega).trans c4 fun j _ e=>.inl e
   ·intro j e
    have:=hw5 j e
    exact⟨.inr (by omega),fun e'=>by rw [e'] at this;omega⟩
  by_cases hz:ents.length+k=0
  ·simp (disch:=omega) only [vvB,Nat.reduceEqDiff,reduceCtorEq,↓reduceIte,abQ,abP,abO,f0,f10,f12,e1,e3',S2,L2,ol]
   exact fin
  ·obtain⟨y,hy⟩:∃y,(ents++es.take k)[ents.length+k - 1]?=some y:=⟨_,List.getElem?_eq_getElem (by rw [hlen];omega)⟩
   have hym:y.mod≤c:=by
    rcases List.mem_append.1 (List.mem_of_getElem? hy) with q|q
    ·exact hl y q
    ·rw [hc y (List.mem_of_mem_take q)];omega
   obtain⟨i',q',cs',e1',e2',-,-,-,l3',-⟩:=o2.aNp.elt hy
   obtain rfl:cs'=iI y:=e2'
   have l3:=l3' g2 rfl 0 (iV y.mod) rfl
   have hd:decide (x.mod<y.mod)=false:=decide_eq_false (by omega)
   have hcast:((ents.length+k:Nat):Int) - 1=((ents.length+k - 1:Nat):Int):=by omega
   simp (disch:=omega) only [vvB,Nat.reduceEqDiff,reduceCtorEq,↓reduceIte,abQ,abP,abO,f0,f10,f12,e1,e3',S2,L2,M2,ol,hcast,e1',l3,hd]
   exact fin
 ·intro w fr g fa hI
  obtain⟨f0,f10,-⟩:=fa
  obtain⟨kg,og,cg,hw⟩:=hI
  rw [List.take_length] at og
  exact⟨f0,w,kg,og,cg,fun j e=>(hw j e).1⟩
 ·rintro fr g ⟨f0,w,kg,og,cg,hw⟩
  have L1:=kg.ld (q:=1) (x:=w) rfl
  have L0:=kg.ld (q:=0) (x:=iV 10000) rfl
  have ol:=og.len g
  rw [List.length_append] at ol
  simp (disch:=omega) only [vvB,Nat.reduceEqDiff,reduceCtorEq,↓reduceIte,aoO,aoN,f0,L1,L0,ol]
  exact⟨_,g,rfl,w,kg,og,cg,hw⟩
 ·intro fr g q;exact q.elim
end Go.Proofs.Im

noncomputable section
namespace Go.Vm
def iU(c:Nat):Bool:=Nat.ble 33 c&&Nat.ble c 126&&!decide (jY c [40,41,123,125,37,42,34,92,93]≥0)
def WW(s:List Nat):Bool:=s.all iU&&!decide (s= [])
def amG(s:List Nat):Bool:=WW s&&Nat.ble s.length 64&&decide (foldM s=s)
end Go.Vm
namespace Go.Proofs.Im
open Go Go.Proofs Go.Vm Go.Im
set_option maxRecDepth 100000
variable{h h' g:Hp}{P:Pos→Prop}{A:Acc}{v:V}
theorem KT{s:List Nat}{c:Nat}(hc:c<256):nV [.str s,.int .u8 (c:Int)] h=.ok (.int .i64 (jY c s)) h:=by
 have e:qC [.str s,.int .u8 (c:Int)] h=.ok (.int .i64 (jY c s)) h:=by
  show(match Nat.blt c 256 with|true=>iw .i64 (jY c s) h|false=>.bad)=_
  rw [show Nat.blt c 256=true by rw [Nat.blt_eq];exact hc]
  exact fP _ _ _
 rw [ail]
 have e2:qL [.str s,.int .u8 (c:Int)] h=.ok (.int .i64 (jY c s)) h:=by
  rw [RZ]
  simp only [vvB,Nat.reduceEqDiff,reduceCtorEq,↓reduceIte,Dy,F8,F7,e]
  simp only [aT,bD,vvB,Nat.reduceEqDiff,reduceCtorEq,↓reduceIte,bF]
 simp only [vvB,Nat.reduceEqDiff,reduceCtorEq,↓reduceIte,MV,VB,VA,e2]
 simp only [aT,bD,vvB,Nat.reduceEqDiff,reduceCtorEq,↓reduceIte,bF]
theorem afm{s:List Nat}(hl:s.length<1000000000)(hs:∀c∈s,c<256):wZ [.str s] h=.ok (.bool (WW s)) h:=by
 rw [ayt]
 suffices T:aU Tryz.prog [.tmp 2] (fun r h'=>r=.bool (WW s)∧h'=h) (Xt (T.set (some (.str s)) (Pos.of 0) T.nil) h) by
  obtain⟨r,h',e,rfl,rfl⟩:=T;exact e
 simp (disch:=omega) only [vvB,Nat.reduceEqDiff,reduceCtorEq,↓reduceIte,Xt,aiZ,aiY,akc]
 refine Oc.then (dY (σ:=Unit) (n:=s.length) (pi:=6) (pn:=5) (pc:=7) [0] (fun _=> [.str s]) (fun k _ g=>g=h∧(s.take k).all iU=true)
  (A:=fun fr g=>fr.get (Pos.of 0)=some (.str s)∧g=h∧s.all iU=true) (B:=fun fr g=>fr.get (Pos.of 2)=some (.bool (WW s))∧g=h) (s:=())
  (fun fr h _ k e1 e2=>by simp only [vvB,Nat.reduceEqDiff,reduceCtorEq,↓reduceIte,aiX,e1,e2]) (fun fr h k _ e1=>by simp (disch:=omega) only [vvB,Nat.reduceEqDiff,reduceCtorEq,↓reduceIte,aiW,e1]) (by decide) (by rw [dS];omega) (qK0) (qK0) (by simp only [Fa,vvB,Nat.reduceEqDiff,reduceCtorEq,↓reduceIte,and_self]) ⟨rfl,by simp⟩ ?_ ?_) ?_ ?_
 ·intro k _ fr g hk f6 f5 fa hI
  obtain⟨f0,-⟩:=fa
  obtain⟨rfl,hI⟩:=hI
  obtain⟨c,hc⟩:∃c,s[k]?=some c:=⟨_,List.getElem?_eq_getElem hk⟩
  have hc256:=hs c (List.mem_of_getElem? hc)
  have ex:dG (.str s) (.int .i64 (k:Int)) g=.ok (.int .u8 (c:Int)) g:=jl hc
  have bad:iU c=false→fr.get (Pos.of 6)=fr.get (Pos.of 6)→WW s=false:=fun e _=>by
   unfold WW
   rw [show s.all iU=false from ?_];rfl
   rw [List.all_eq_false]
   exact⟨c,List.mem_of_getElem? hc,by rw [e];simp⟩
  by_cases h1:c<33
  ·have q1:((c:Int)<33)=True:=eq_true (by omega)
   simp (disch:=omega) only [vvB,Nat.reduceEqDiff,reduceCtorEq,↓reduceIte,Es,Ep,NP,f0,f6,ex,q1]
   exact⟨by simp only [vvB,Nat.reduceEqDiff,reduceCtorEq,↓reduceIte];rw [bad (by unfold iU;rw [show Nat.ble 33 c=false by rw [←Bool.not_eq_true,Nat.ble_eq];omega];rfl) rfl],rfl⟩
  ·have q1:((c:Int)<33)=False:=eq_false (by omega)
   by_cases h2:126<c
   ·have q2:((c:Int)>126)=True:=eq_true (by omega)
    simp (disch:=omega) only [vvB,Nat.reduceEqDiff,reduceCtorEq,↓reduceIte,Es,Ep,NP,f0,f6,ex,q1,q2]
    exact⟨by simp only [vvB,Nat.reduceEqDiff,reduceCtorEq,↓reduceIte];rw [bad (by unfold iU;rw [show Nat.ble c 126=false by rw [←Bool.not_eq_true,Nat.ble_eq];omega];simp) rfl],rfl⟩
   ·have q2:((c:Int)>126)=False:=eq_false (by omega)
    have ac:iU c=!decide (jY c [40,41,123,125,37,42,34,92,93]≥0):=by
     unfold iU
     rw [show Nat.ble 33 c=true by rw [Nat.ble_eq];omega,show Nat.ble c 126=true by rw [Nat.ble_eq];omega];rfl
    by_cases h3:jY c [40,41,123,125,37,42,34,92,93]≥0
    ·have q3:=eq_true h3
     simp (disch:=omega) only [vvB,Nat.reduceEqDiff,reduceCtorEq,↓reduceIte,Es,Ep,NP,f0,f6,ex,q1,q2,KT hc256,q3]
     exact⟨by simp only [vvB,Nat.reduceEqDiff,reduceCtorEq,↓reduceIte];rw [bad (by rw [ac,decide_eq_true h3];rfl) rfl],rfl⟩
    ·have q3:=eq_false h3
     simp (disch:=omega) only [vvB,Nat.reduceEqDiff,reduceCtorEq,↓reduceIte,Es,Ep,f0,f6,ex,q1,q2,KT hc256,q3]
     refine⟨qK2 f6,qK2 f5,(),by simp only [Fa,vvB,Nat.reduceEqDiff,reduceCtorEq,↓reduceIte,f0,and_self],rfl,?_⟩
     rw [take_snoc hc,List.all_append,hI]
     simp [ac,h3]
 ·intro _ fr g fa hI
  obtain⟨f0,-⟩:=fa
  obtain⟨rfl,hI⟩:=hI
  rw [List.take_length] at hI
  exact⟨f0,rfl,hI⟩
 ·rintro fr g ⟨f0,rfl,hI⟩
  simp (disch:=omega) only [vvB,Nat.reduceEqDiff,reduceCtorEq,↓reduceIte,aiV,f0]
  refine aU.ret (qT0) ⟨?_,rfl⟩
  unfold WW
  rw [hI]
  by_cases hz:s= []<;>simp [hz]
 ·rintro fr g ⟨f2,rfl⟩
  exact aU.ret (qT1 f2) ⟨rfl,rfl⟩
theorem aEn{s:List Nat}(hr:amG s=true):∃h',TL [.str s] h=.ok (.bool true) h'∧Nw h h':=by
 unfold amG at hr
 rw [Bool.and_eq_true,Bool.and_eq_true] at hr
 obtain⟨⟨ha,hl⟩,hf⟩:=hr
 have hl':s.length≤64:=Nat.le_of_ble_eq_true hl
 have hf':foldM s=s:=of_decide_eq_true hf
 have hs:∀c∈s,c<256:=fun c hc=>by
  unfold WW at ha
  rw [Bool.and_eq_true] at ha
  have:=List.all_eq_true.1 ha.1 c hc
  unfold iU at this
  rw [Bool.and_eq_true,Bool.and_eq_true] at this
  have:=Nat.le_of_ble_eq_true this.1.2
  omega
 obtain⟨h1,e1,c1⟩:=Zg (h:=h) (s:=s) (by omega) hs
 rw [hf'] at e1
 rw [atu]
 simp (disch:=omega) only [vvB,Nat.reduceEqDiff,reduceCtorEq,↓reduceIte,acn,agw,agv,afm (h:=h) (s:=s) (by omega) hs,ha,e1]
 exact⟨h1,by simp only [aT,bD,vvB,Nat.reduceEqDiff,reduceCtorEq,↓reduceIte,bF]<;>rfl,c1⟩
theorem azb(x:V)(g:Hp):dX qx (.func (.func ars) .nil .nil) [x] g=TM [x] g:=(rfl)
theorem aG6{l:List (List Nat)}(r:Rws P (flat jH) 1 h v l)(hr:∀k∈l,amG k=true)(hn:l.length≤1):
  ∃w h',XI [v] h=.ok (.tuple (.cons w (.cons (iV 0) .nil))) h'∧Rws (fun j=>h.next.nat≤j.nat) (flat jH) 1 h' w l∧Nw h h':=by
 obtain⟨h1,e1,c1⟩:=aay r (aQ _) (fun _=>false) (by omega) (f:=.func (.func ars) .nil .nil) (fun a x g ha cg e=>by
  cases(show [x]= [V.str a] from e)
  obtain⟨g1,e2,c2⟩:=aEn (h:=g) (hr a ha)
  refine⟨g1,?_,c2⟩
  rw [azb,atv]
  simp only [vvB,Nat.reduceEqDiff,reduceCtorEq,↓reduceIte,aco,agy,agx,e2]
  simp only [aT,bD,vvB,Nat.reduceEqDiff,reduceCtorEq,↓reduceIte,bF])
 rw [show(l.any fun _=>false)=false by simp] at e1
 obtain⟨w,h2,e2,r2,c2,o2⟩:=aaz (r.nw (aQ _) c1) (by omega)
 have hn1:=c1.next
 have srt:∃u h3,mr [w] h2=.ok u h3∧Rws (fun j=>h1.next.nat≤j.nat) (flat jH) 1 h3 w l∧Nw h h3:=by
  rcases o2 with rfl|o2
  ·exact⟨_,h2,ZA (r2.len h2),r2,c1.trans c2⟩
  ·obtain⟨h3,e3,o3,c3⟩:=as9 o2 (by omega)
   rw [aaW _ hn] at o3
   exact⟨_,h3,e3,o3.rows (aQ _) (fun _ _ q=>q.elim) fun _ q _=>q,(c1.trans c2).then c3 fun j hj e=>by have:=(o2.dN e).1;omega⟩
 obtain⟨u,h3,e3,r3,c3⟩:=srt
 have e4:=ami r3 hn
 rw [ayG]
 simp (disch:=omega) only [vvB,Nat.reduceEqDiff,reduceCtorEq,↓reduceIte,ag8,ajY,ajX,ajW,ajV,ajU,ajT,ajS,e1,e2,e3,e4,r3.len]
 exact⟨w,h3,by simp only [aT,bD,vvB,Nat.reduceEqDiff,reduceCtorEq,↓reduceIte,bF]<;>rfl,r3.mono (aQ _) fun j _ q=>by omega,c3⟩
end Go.Proofs.Im

noncomputable section
namespace Go.Im
open Go.Vm
def updB(id:Int)(f:Bx→Bx):List Bx→List Bx
 | []=> []
 |b::l=>if b.id=id then f b::l else b::updB id f l
theorem akj{id:Int}{f:Bx→Bx}:∀{l:List Bx} {i:Nat},l.findIdx? (fun b=>decide (b.id=id))=some i→∃b,l[i]?=some b∧updB id f l=l.set i (f b)
 | [],i,e=>by simp at e
 |b::l,i,e=>by
  rw [List.findIdx?_cons] at e
  by_cases hb:b.id=id
  ·rw [if_pos (by simpa using hb)] at e
   cases e
   exact⟨b,rfl,by simp [updB,hb]⟩
  ·rw [if_neg (by simpa using hb)] at e
   cases hq:l.findIdx? (fun b=>decide (b.id=id)) with
   |none=>rw [hq] at e;cases e
   |some k=>
    rw [hq] at e
    cases e
    obtain⟨c,hc,hu⟩:=akj (f:=f) hq
    exact⟨c,hc,by simp [updB,hb,hu]⟩
theorem atZ(id:Int)(f:Bx→Bx)(l:List Bx):(updB id f l).length=l.length:=by
 induction l with
 |nil=>rfl
 |cons b l ih=>unfold updB;split<;>simp [ih]
theorem arj{id k:Int}{f:Bx→Bx}(hf:∀b,(f b).id=b.id)(l:List Bx):(updB id f l).findIdx? (fun b=>decide (b.id=k))=l.findIdx? (fun b=>decide (b.id=k)):=by
 induction l with
 |nil=>rfl
 |cons b l ih=>
  unfold updB
  split
  ·rw [List.findIdx?_cons,List.findIdx?_cons,hf]
  ·rw [List.findIdx?_cons,List.findIdx?_cons,ih]
def ny(mod:Int):List Int→List Bx→List Bx
 | [],l=>l
 |id::r,l=>ny mod r (updB id (fun b=>{b with mod:=mod}) l)
theorem amm(mod id:Int):∀(r:List Int) (l:List Bx),ny mod (r++ [id]) l=updB id (fun b=>{b with mod:=mod}) (ny mod r l)
 | [],_=>rfl
 |_::r,l=>amm mod id r _
theorem amn{k mod:Int}:∀(r:List Int) (l:List Bx),(ny mod r l).findIdx? (fun b=>decide (b.id=k))=l.findIdx? (fun b=>decide (b.id=k))
 | [],_=>rfl
 |id::r,l=>(amn r _).trans (arj (f:=fun b=>{b with mod:=mod}) (fun _=>rfl) l)
theorem ark(mod:Int):∀(r:List Int) (l:List Bx),(ny mod r l).length=l.length
 | [],_=>rfl
 |id::r,l=>(ark mod r _).trans (atZ _ _ l)
def ql(mod id:Int):En:={mod:=mod,kind:=1,id:=id,how:=2}
end Go.Im
namespace Go.Proofs.Im
open Go Go.Proofs Go.Vm Go.Im
set_option maxRecDepth 100000
variable{h h' g:Hp}{F I P:Pos→Prop}{ps pl ib:Pos}{A:Acc}{cb:Cap}{fb:Bool}{v vm vl:V}
theorem dL.aJo(a:dL h F ps A pl ib cb fb vm vl I){B:List Bx}(hl:B.length=A.boxes.length):dL (h.put ib (some (.cells (.rw tBx fb) (B.map fQ).flatten))) F ps {A with boxes:=B} pl ib cb fb vm vl I:=by
 have c:Ch (fun j=>j=ib) h (h.put ib (some (.cells (.rw tBx fb) (B.map fQ).flatten))):=Ch.put _ _ rfl
 have ne:=a.ne
 refine⟨?_,a.lg.ch c fun e=>ne.2.2 e,a.bx.put _,by show jM 6 (.slice ib 0 B.length cb);rw [hl];exact a.cap,?_,?_,a.ne,a.nm,a.nl,a.inn,a.foot,a.lt,a.enil⟩
 ·have e:stC {A with boxes:=B} ib cb vm pl=stC A ib cb vm pl:=by unfold stC;simp only [hl]
  rw [e];exact a.st.ch c fun e=>ne.2.1 e
 ·obtain⟨css,x,hw,r⟩:=a.ml
  refine⟨css,x.mono fun _ _ e=>dw e c fun j _ q=>⟨q,fun e=>(a.inn j q).2.2.2.1 e⟩,hw,r.imp id fun⟨i,f,rest,e,k⟩=>⟨i,f,rest,e,k.ch c fun e'=>?_⟩⟩
  exact(a.nm i (by rw [e];rfl)).2.2.1 e'
 ·obtain⟨css,x,hw,s⟩:=a.en
  exact⟨css,x.mono fun _ _ e=>e,hw,s.ch c fun j hj e=>(a.nl j hj).2.2 e⟩
theorem wK{sz:Nat}{i:Pos}{n m:Nat}{c:Cap}(hm:m<n)(g:Hp):bU sz (.slice i 0 n c) (.int .i64 (m:Int)) g=.ok (.ptr i (m*sz)) g:=by rw [zl hm,Nat.zero_add]
theorem aQc(x:En)(h:Hp):bI tEn zEn 1 [(0,4,.agg (V.ofList (iI x)))] h=.ok (.slice h.next 0 1 (.kn 1)) (h.new (.cells (.rw tEn true) (iI x))):=(rfl)
theorem aCU(a b c d:Int)(h:Hp):bK zEn [(0,1,.int .i64 a),(1,1,.int .i64 b),(2,1,.int .i64 c),(3,1,.int .i64 d)] h=.ok (.agg (V.ofList (iI {mod:=a,kind:=b,id:=c,how:=d}))) h:=(rfl)
theorem dL.aNR(a:dL h F ps A pl ib cb fb vm vl I){k f:Nat}{b:Bx}(hk:A.boxes[k]?=some b)(hf:f<6){y:Int}{b':Bx}(hb:(fQ b).set f (iV y)=fQ b'):
  aO 1 (.ptr ib (k*6+f)) (iV y) h=.ok V.undef (h.put ib (some (.cells (.rw tBx fb) ((A.boxes.set k b').map fQ).flatten))):=by
 have hlt:=(List.getElem?_eq_some_iff.1 hk).1
 have hws:∀d∈A.boxes.map fQ,d.length=6:=fun d hd=>by obtain⟨x,_,rfl⟩:=List.mem_map.1 hd;rfl
 have hlen:(A.boxes.map fQ).flatten.length=A.boxes.length*6:=by rw [jv hws,List.length_map]
 rw [a.bx.st ⟨rfl,rfl⟩ (by rw [hlen];omega),avH hws (by rw [List.getElem?_map,hk];rfl) hf,hb,List.map_set]
theorem aiE(a:dL h F ps A pl ib cb fb vm vl I)(hA:A.Small){ids l:List Int}(r:Rws P (flat iD) 1 h v ids)(hn:ids.length≤12)(mod:Int)(hl:iP ltI ids.length ids=l)(hnd:∀(k:Nat) x y,l[k]?=some x→l[k+1]?=some y→x≠y)
  (hb:∀id∈l,∃i,A.boxes.findIdx? (fun b=>decide (b.id=id))=some i):
  ∃w h',EQ [.ptr ps 0,iV mod,v] h=.ok w h'∧dL h' F ps {A with boxes:=ny mod l A.boxes} pl ib cb fb vm vl I∧Rws (fun j=>h.next.nat≤j.nat) (flat iI) 4 h' w (l.map (ql mod))∧XK w l.length∧Ch (fun j=>j=ib) h h':=by
 obtain⟨w1,h1,e1,r1,c1,o1⟩:=akf r (by omega)
 have hll:l.length=ids.length:=by rw [←hl,Dq]
 have n1:=c1.next
 have hib:=a.bx.2
 have srt:∃u h2,oN [w1] h1=.ok u h2∧Rws (fun j=>h.next.nat≤j.nat) (flat iD) 1 h2 w1 l∧Nw h h2:=by
  rcases o1 with rfl|o1
  ·have:l= []:=by rw [←hl];rfl
   rw [this]
   exact⟨_,h1,aiG (r1.len h1),r1,c1⟩
  ·obtain⟨h2,e2,o2,c2⟩:=anQ o1 (by omega)
   rw [hl] at o2
   exact⟨_,h2,e2,o2.rows (aQ _) (fun _ _ q=>q.elim) fun _ q _=>q,c1.then c2 fun j hj e=>by have:=(o1.dN e).1;omega⟩
 obtain⟨u,h2,e2,r2,c2⟩:=srt
 have e3:=atB r2 (by omega) hnd
 have a2:=a.nw c2
 have n2:=c2.next
 rw [aq2]
 show aU Tryz.prog _ (fun w h'=>dL h' F ps {A with boxes:=ny mod l A.boxes} pl ib cb fb vm vl I∧Rws (fun j=>h.next.nat≤j.nat) (flat iI) 4 h' w (l.map (ql mod))∧XK w l.length∧Ch (fun j=>j=ib) h h') _
 simp (disch:=omega) only [vvB,Nat.reduceEqDiff,reduceCtorEq,↓reduceIte,YH,adu,adt,ads,adr,adq,e1,e2,e3,r2.len,aee]
 refine Oc.then (dY (σ:=V) (n:=l.length) (pi:=18) (pn:=17) (pc:=19) [0,1,8,16] (fun o=> [.ptr ps 0,iV mod,o,w1])
  (fun k o g=>dL g F ps {A with boxes:=ny mod (l.take k) A.boxes} pl ib cb fb vm vl I∧dA h2.next.nat (fun _=>False) (flat iI) tEn 4 g o ((l.take k).map (ql mod))∧Ch (fun j=>j=ib) h2 g)
  (A:=fun fr g=>∃o,fr.get (Pos.of 8)=some o∧dL g F ps {A with boxes:=ny mod l A.boxes} pl ib cb fb vm vl I∧dA h2.next.nat (fun _=>False) (flat iI) tEn 4 g o (l.map (ql mod))∧Ch (fun j=>j=ib) h2 g) (B:=fun _ _=>False) (s:=.aG)
  (fun fr h _ k e1 e2=>by simp only [vvB,Nat.reduceEqDiff,reduceCtorEq,↓reduceIte,adp,e1,e2]) (fun fr h k _ e1=>by simp (disch:=omega) only [vvB,Nat.reduceEqDiff,reduceCtorEq,↓reduceIte,adk,e1]) (by decide) (by rw [dS];omega) (qK0) (qK0) (by simp only [Fa,vvB,Nat.reduceEqDiff,reduceCtorEq,↓reduceIte,and_self])
  ⟨a2,dA.nil _ _ _ _ _ _,Ch.refl _ _⟩ ?_ ?_) ?_ ?_
 ·intro k o fr g hk f18 f17 fa hI
  obtain⟨f0,f1,f8,f16,-⟩:=fa
  obtain⟨ag,og,cg⟩:=hI
  obtain⟨id,hid⟩:∃id,l[k]?=some id:=⟨_,List.getElem?_eq_getElem hk⟩
  obtain⟨i,q,cs,e4,ex,-,-,-,l4,-⟩:=(r2.ch (P':=fun _=>True) (aQ _) cg fun j hj pj=>⟨trivial,fun e=>by rw [e] at pj;omega⟩).elt hid
  obtain rfl:cs=iD id:=ex
  have L4:aF (.ptr i q) g=.ok (iV id) g:=l4 g rfl 0 _ rfl
  obtain⟨bi,hbi⟩:=hb id (List.mem_of_getElem? hid)
  have hbi':(ny mod (l.take k) A.boxes).findIdx? (fun b=>decide (b.id=id))=some bi:=by rw [amn];exact hbi
  obtain⟨b,hbg,hbu⟩:=akj (f:=fun b=>{b with mod:=mod}) hbi'
  have hsm:({A with boxes:=ny mod (l.take k) A.boxes}:Acc).Small:=⟨hA.clock,by show 0<(ny mod (l.take k) A.boxes).length∧_;rw [ark];exact hA.boxes,hA.mails,hA.ents,hA.each⟩
  obtain⟨g2,e5,c5⟩:=abG ag hsm id
  simp only [hbi',iH] at e5
  have ag2:=ag.nw c5
  have Lb:=ag2.st.ld (q:=10) (x:=.slice ib 0 (ny mod (l.take k) A.boxes).length cb) rfl
  have Lb0:=ag.st.ld (q:=10) (x:=.slice ib 0 (ny mod (l.take k) A.boxes).length cb) rfl
  have hlt:=(List.getElem?_eq_some_iff.1 hbg).1
  obtain⟨g3,hg3⟩:∃g3,g3=g2.put ib (some (.cells (.rw tBx fb) (((ny mod (l.take k) A.boxes).set bi {b with mod:=mod}).map fQ).flatten)):=⟨_,rfl⟩
  have S3:aO 1 (.ptr ib (bi*6+5)) (iV mod) g2=.ok V.undef g3:=by rw [hg3];exact ag2.aNR hbg (by omega) rfl
  have ag3:dL g3 F ps {A with boxes:=ny mod (l.take (k+1)) A.boxes} pl ib cb fb vm vl I:=by
   rw [take_snoc hid,amm,hbu,hg3]
   exact ag2.aJo (by rw [List.length_set])
  have c23:Ch (fun j=>j=ib) g2 g3:=by rw [hg3];exact Ch.put _ _ rfl
  have hcn:=cg.next
  have n5:=c5.next
  have n23:=c23.next
  have og3:dA h2.next.nat (fun _=>False) (flat iI) tEn 4 g3 o ((l.take k).map (ql mod)):=(og.nw (aQ _) c5).ch (aQ _) c23 (fun j hj e=>by have:=(og.dN hj).1;rw [e] at this;omega) fun _ _ q=>q.elim
  obtain⟨o',g4,e6,o6,c6,n6,hv6⟩:=og3.awc (bt:=32) (x:=ql mod id) (by omega) rfl (by simp;omega)
  have e6:bT tEn 4 32 o (.slice g3.next 0 1 (.kn 1)) (g3.new (.cells (.rw tEn true) (iI {mod:=mod,kind:=1,id:=id,how:=2})))=.ok o' g4:=e6
  simp (disch:=omega) only [vvB,Nat.reduceEqDiff,reduceCtorEq,↓reduceIte,ado,adn,adl,f0,f1,f8,f16,f18,e4,L4,e5,Lb,Bl rfl Lb0,wK hlt,S3,aCU,aQc,e6]
  refine⟨qK2 f18,qK2 f17,o',by simp only [Fa,vvB,Nat.reduceEqDiff,reduceCtorEq,↓reduceIte,f0,f1,f16,and_self],ag3.ch c6 fun j f e=>by have:=a2.lt j f;have:=(og.dN e).1;omega,?_,?_⟩
  ·rw [take_snoc hid,List.map_append];exact o6
  ·exact((cg.nw c5).trans c23 fun _ _ q=>q).trans c6 fun j hj e=>by have:=(og.dN e).1;omega
 ·intro o fr g fa hI
  obtain⟨f0,f1,f8,f16,-⟩:=fa
  obtain⟨ag,og,cg⟩:=hI
  rw [List.take_length] at ag og
  exact⟨o,f8,ag,og,cg⟩
 ·rintro fr g ⟨o,f8,ag,og,cg⟩
  have ol:=og.len g
  rw [List.length_map] at ol
  have fin:∃w,eX 4 o none (some (.int .i64 (l.length:Int))) (some (.int .i64 (l.length:Int))) g=.ok w g∧Rws (fun j=>h.next.nat≤j.nat) (flat iI) 4 g w (l.map (ql mod))∧XK w l.length:=by
   by_cases hz:l= []
   ·obtain⟨css,x,hw,s⟩:=og
    rcases s.is with⟨_,rfl⟩|⟨i,rfl,hbi,hi,f,hg⟩
    ·subst hz
     exact⟨.aG,rfl,Rws.aG _ _ _ _,.inl ⟨rfl,rfl⟩⟩
    ·subst hz
     refine⟨.slice i 0 0 (.kn 0),by simp only [List.map_nil,List.length_nil];rfl,?_,.inr ⟨i,rfl⟩⟩
     cases x
     exact⟨[],.nil,fun _ q=>(by cases q),⟨by simp,.inr ⟨i,0,_,.rw tEn f,_,rfl,hi,by rw [hg];rfl,fun k hk=>by simp at hk⟩⟩,fun _ _ _ _ e=>(by cases e;exact Nat.le_refl _),fun j hj=>by cases hj;show h.next.nat≤i.nat;omega⟩
   ·have hz':l.map (ql mod)≠ []:=by simpa using hz
    obtain⟨i,f,rfl,hbi,kk⟩:=og.open hz'
    rw [List.length_map] at*
    refine⟨.slice i 0 l.length (.kn l.length),?_,?_,.inr ⟨i,rfl⟩⟩
    ·show(match Nat.ble l.length l.length,Nat.ble l.length l.length,Nat.ble 0 l.length with
      |true,true,true=>eu (moved 4 0 0 l.length) fun q=>eu (l.length - 0) fun n=>R.ok (V.slice i q n (.kn (l.length - 0))) g
      |_,_,_=>.bad)=_
     rw [Nat.ble_eq_true_of_le (Nat.le_refl _),Nat.ble_eq_true_of_le (Nat.zero_le _)]
     simp only [dB]
     have hm:moved 4 0 0 l.length=0:=by unfold moved;split<;>rfl
     rw [hm,Nat.sub_zero]
    ·have hws:∀d∈(l.map (ql mod)).map iI,d.length=4:=fun d hd=>by obtain⟨x,_,rfl⟩:=List.mem_map.1 hd;rfl
     have:=Kn.rws (c:=iI) (sz:=4) (l:=l.map (ql mod)) (cp:=.kn l.length) kk (fun _=>rfl) (fun _ _ _ _ e=>by cases e;simp)
     rw [List.length_map] at this
     exact this.mono (aQ _) fun j _ e=>by rw [e];omega
  obtain⟨w,e7,r7,f7⟩:=fin
  simp (disch:=omega) only [vvB,Nat.reduceEqDiff,reduceCtorEq,↓reduceIte,ZP,f8,ol,e7]
  exact aU.ret (r:=w) (qT0) ⟨ag,r7,f7,Ch.trans (c2.ch) cg fun _ _ q=>q⟩
 ·intro fr g q;exact q.elim
end Go.Proofs.Im

noncomputable section
namespace Go.Vm
end Go.Vm
namespace Go.Im
open Go.Vm
structure Acc.Logged (A:Acc):Prop where
 mods:∀e∈A.ents,e.mod≤A.clock
structure Ml.In (A:Acc) (m:Ml):Prop where
 sorted:iP ltI (m.mem.map (·.1)).length (m.mem.map (·.1))=m.mem.map (·.1)
 nodup:∀(k:Nat) x y,(m.mem.map (·.1))[k]?=some x→(m.mem.map (·.1))[k+1]?=some y→x≠y
 there:∀id∈m.mem.map (·.1),∃i,A.boxes.findIdx? (fun b=>decide (b.id=id))=some i
 few:m.mem.length≤12
end Go.Im
namespace Go.Proofs.Im
open Go Go.Proofs Go.Vm Go.Im
set_option maxRecDepth 100000
variable{h h':Hp}{F I:Pos→Prop}{ps pl ib:Pos}{A:Acc}{cb:Cap}{fb:Bool}{vm vl:V}
theorem dL.aJl(a:dL h F ps A pl ib cb fb vm vl I){es:List En}{vl':V}(k:Kn h' pl (.cells (.rw tLg true) [iV 10000,vl',iV A.floor]))(o:dA 0 (fun _=>False) (flat iI) tEn 4 h' vl' (A.ents++es))
  (c:Ch (fun j=>j=pl∨aX vl=some j) h h') (hv:∀j,aX vl'=some j→aX vl=some j∨h.next.nat≤j.nat) (hes:es≠ []):dL h' (fun j=>F j∨aX vl'=some j) ps {A with ents:=A.ents++es} pl ib cb fb vm vl' I where
 st:=a.st.ch c fun e=>e.elim a.ne.1 fun e=>(a.nl ps e).1 rfl
 lg:=k
 bx:=a.bx.ch c fun e=>e.elim (fun e=>a.ne.2.2 e.symm) fun e=>(a.nl ib e).2.2 rfl
 cap:=a.cap
 ml:=by
  obtain⟨css,x,hw,r⟩:=a.ml
  exact⟨css,x.mono fun _ _ e=>dw e c fun j _ q=>⟨q,fun e=>e.elim (a.inn j q).2.2.1 (a.inn j q).2.2.2.2.2⟩,hw,r.imp id fun⟨i,f,rest,e,k⟩=>⟨i,f,rest,e,k.ch c fun e'=>e'.elim (a.nm i (by rw [e];rfl)).2.1 (a.nm i (by rw [e];rfl)).2.2.2⟩⟩
 en:=o
 ne:=a.ne
 nm:=fun j e=>⟨(a.nm j e).1,(a.nm j e).2.1,(a.nm j e).2.2.1,fun e'=>(hv j e').elim (a.nm j e).2.2.2 fun q=>by have:=a.lt j (a.foot.2.2.2.1 j e);omega⟩
 nl:=fun j e=>(hv j e).elim (a.nl j) fun q=>⟨fun e=>by rw [e] at q;have:=a.st.2;omega,fun e=>by rw [e] at q;have:=a.lg.2;omega,fun e=>by rw [e] at q;have:=a.bx.2;omega⟩
 inn:=fun j q=>⟨.inl (a.inn j q).1,(a.inn j q).2.1,(a.inn j q).2.2.1,(a.inn j q).2.2.2.1,(a.inn j q).2.2.2.2.1,fun e=>(hv j e).elim (a.inn j q).2.2.2.2.2 fun q'=>by have:=a.lt j (a.inn j q).1;omega⟩
 foot:=⟨.inl a.foot.1,.inl a.foot.2.1,.inl a.foot.2.2.1,fun j e=>.inl (a.foot.2.2.2.1 j e),fun j e=>.inr e⟩
 lt:=fun j q=>q.elim (fun q=>Nat.lt_of_lt_of_le (a.lt j q) c.next) fun e=>(o.dN e).2
 enil:=fun e=>absurd (List.append_eq_nil_iff.1 e).2 hes
end Go.Proofs.Im

noncomputable section
namespace Go.Proofs.Im
open Go Go.Proofs Go.Vm Go.Im
set_option maxRecDepth 100000
abbrev zSt:List V:= [(.str []),(.str []),(.int .i64 0),(.int .i64 0),(.int .i64 0),(.int .i64 0),(.int .i64 0),(.int .i64 0),(.int .i64 0),(.int .i64 0),.aG,.aG,.bY,(.int .i64 0),(.int .i64 0),(.int .i64 0)]
end Go.Proofs.Im

noncomputable section
namespace Go.Im
open Go.Vm
theorem _root_.Go.Vm.All2.eraseIdx{α:Type}{R:α→List V→Prop}{l:List α}{cs:List (List V)}(a:All2 R l cs)(n:Nat):All2 R (l.eraseIdx n) (cs.eraseIdx n):=by
 rw [List.eraseIdx_eq_take_drop_succ,List.eraseIdx_eq_take_drop_succ]
 exact(a.take n).append (a.drop (n+1))
end Go.Im
namespace Go.Proofs.Im
open Go Go.Proofs Go.Vm Go.Im
set_option maxRecDepth 100000
variable{p:Pos}
abbrev aP3:List V:= [(.int .i64 0),(.int .i64 0),(.int .i64 0),(.int .i64 0),(.int .i64 0),(.int .i64 0),(.int .i64 0),(.int .i64 0)]
theorem aDI(a b c d a' b' c' d':Int):fD tEn aP3 2 [(0,4,.agg (V.ofList (iI {mod:=a,kind:=b,id:=c,how:=d}))),(4,4,.agg (V.ofList (iI {mod:=a',kind:=b',id:=c',how:=d'})))]=
  some (.cells (.rw tEn true) (([({mod:=a,kind:=b,id:=c,how:=d}:En),{mod:=a',kind:=b',id:=c',how:=d'}].map iI).flatten),fun p=>.slice p 0 2 (.kn 2)):=(rfl)
end Go.Proofs.Im

noncomputable section
namespace Go.Im
open Go Go.Vm
def Wn(l:List Ml)(box:Int):List (Int×Ml):=l.flatMap fun m=>(m.mem.filter fun x=>decide (x.1=box)).map fun x=>(x.2,m)
def thC(x:Int×Ml)(vk vs:V):List V:=iV x.1::dM x.2 vk vs
def Eg:El (Int×Ml):=fun P h x cs=>∃vk vs,cs=thC x vk vs∧Rws P (flat jH) 1 h vk x.2.keys∧Rws P (flat iY) 2 h vs x.2.mem
theorem eH:Eg.Stable:=fun⟨vk,vm,e,a,b⟩ c hs=>⟨vk,vm,e,a.ch (aQ _) c hs,b.ch (aQ _) c hs⟩
theorem aNZ{l:List Ml}{box:Int}(hm:∀m∈l,m.mem.length≤1000):(Wn l box).length≤l.length*1000:=by
 induction l with
 |nil=>simp [Wn]
 |cons a l ih=>
  have:=ih fun m q=>hm m (by simp [q])
  have h1:=hm a (by simp)
  have h2:(a.mem.filter fun x=>decide (x.1=box)).length≤a.mem.length:=List.length_filter_le _ _
  simp only [Wn,List.flatMap_cons,List.length_append,List.length_map,List.length_cons] at*
  omega
theorem aKB(l:List Ml)(m:Ml)(box:Int):Wn (l++ [m]) box=Wn l box++(m.mem.filter fun x=>decide (x.1=box)).map fun x=>(x.2,m):=by simp [Wn]
end Go.Im
namespace Go.Vm
theorem dA.wide{α:Type}{b b':Nat}{P P':Pos→Prop}{E:El α}{el:TypeId}{w:Nat}{h:Hp}{v:V}{l:List α}(r:dA b P E el w h v l)(hE:E.Stable)(hb:b'≤b)(hp:∀j:Pos,j.nat<h.next.nat→P j→P' j):dA b' P' E el w h v l:=by
 obtain⟨css,a,hw,s⟩:=r.mono hE hp
 exact⟨css,a,hw,s.base fun j hj=>Nat.le_trans hb (s.dN hj).1⟩
end Go.Vm
namespace Go.Proofs.Im
open Go Go.Proofs Go.Vm Go.Im
set_option maxRecDepth 100000
variable{h h' g:Hp}{F I:Pos→Prop}{ps pl ib:Pos}{A:Acc}{cb:Cap}{fb:Bool}{vm vl:V}
abbrev zTh:List V:= [(.int .i64 0),(.int .i64 0),(.int .i64 0),(.str []),(.int .i64 0),.aG,.aG,(.int .i64 0),(.int .i64 0)]
theorem aEs(a:Int)(h:Hp):mZ [iV a] h=.ok (.bool false) h:=by
 rw [Wu]
 have hq:(a=a)=True:=eq_true rfl
 simp only [vvB,Nat.reduceEqDiff,reduceCtorEq,↓reduceIte,FB,Jq,Jp,aT,bD,bF]
theorem aNd{a b:Int}(hab:b<a)(h:Hp):AO [iV a,iV b] h=.ok (iV 1) h:=by
 rw [ahp]
 have h1:(a<b)=False:=eq_false (by omega)
 have h2:(a>b)=True:=eq_true hab
 simp only [vvB,Nat.reduceEqDiff,reduceCtorEq,↓reduceIte,Jy,RY,RX,RV,RU,RS,RQ,Pz,Py,aEs,h1,h2,aT,bD,bF]
theorem awg{x y:Int×Ml}{k1 s1 k2 s2:V}(hxy:x.1<y.1):∃h',rO [.agg (V.ofList (thC y k2 s2)),.agg (V.ofList (thC x k1 s1))] g=.ok (iV 1) h'∧Nw g h':=by
 obtain⟨g1,hg1⟩:∃g1,g1=g.new (.cells (.rw tTh true) (thC y k2 s2)):=⟨_,rfl⟩
 obtain⟨g2,hg2,c2,-⟩:=mkW g1 (.cells (.rw tTh true) (thC x k1 s1))
 have c1:Nw g g1:=by rw [hg1];exact Nw.new _ _
 have e1:=(show Kn g1 g.next (.cells (.rw tTh true) (thC y k2 s2)) by rw [hg1];exact Kn.new _ _).nw c2|>.ld (q:=0) (x:=iV y.1) rfl
 have e2:=(show Kn g2 g1.next (.cells (.rw tTh true) (thC x k1 s1)) by rw [hg2];exact Kn.new _ _).ld (q:=0) (x:=iV x.1) rfl
 refine⟨g2,?_,c1.trans c2⟩
 rw [apm]
 simp only [vvB,Nat.reduceEqDiff,reduceCtorEq,↓reduceIte,VS,ZC,ZB,V.dF,←hg1,←hg2,e1,e2,aNd hxy]
 simp only [aT,bD,vvB,Nat.reduceEqDiff,reduceCtorEq,↓reduceIte,bF]
theorem bTh(x:Int×Ml)(vk vs:V)(h:Hp):bK zTh [(0,1,iV x.1),(1,8,.agg (V.ofList (dM x.2 vk vs)))] h=.ok (.agg (V.ofList (thC x vk vs))) h:=(rfl)
theorem aQa(x:Int×Ml)(vk vs:V)(h:Hp):bI tTh zTh 1 [(0,9,.agg (V.ofList (thC x vk vs)))] h=.ok (.slice h.next 0 1 (.kn 1)) (h.new (.cells (.rw tTh true) (thC x vk vs))):=(rfl)
theorem ap8(e:FuncId→Option Fun)(he:∀x y g,dX e (.func (.func XU) .nil .nil) [x,y] g=rO [x,y] g){P:Pos→Prop}{l:List (Int×Ml)}(hs:l.Pairwise fun x y=>x.1<y.1)(h:Hp):jV e P Eg h (.func (.func XU) .nil .nil) l:=by
 rintro g i j x y cx cy c hij hx hy ⟨k1,s1,e1,-,-⟩ ⟨k2,s2,e2,-,-⟩ _ _
 obtain⟨hi,hx'⟩:=List.getElem?_eq_some_iff.1 hx
 obtain⟨hj,hy'⟩:=List.getElem?_eq_some_iff.1 hy
 have hxy:x.1<y.1:=by rw [←hx',←hy'];exact List.pairwise_iff_getElem.1 hs i j hi hj hij
 subst e1 e2
 rw [he]
 exact awg hxy
theorem aiD(a:dL h F ps A pl ib cb fb vm vl I)(hA:A.Small){box:Int}(hs:(Wn A.mails box).Pairwise fun x y=>x.1<y.1)(h50:(Wn A.mails box).length<50):
  ∃r h',zA [.ptr ps 0,iV box] h=.ok r h'∧gY h.next.nat Eg tTh 9 h' r (Wn A.mails box)∧Nw h h':=by
 obtain⟨r,h1,e1,o1,c1⟩:=abE a hA
 have R:=(o1.rws dw).mono (P':=fun j=>h.next.nat≤j.nat∧j.nat<h1.next.nat) dw fun j hj q=>⟨q,hj⟩
 have hn:=hA.mails
 have n1:=c1.next
 rw [aqZ]
 show aU Tryz.prog _ (fun r h'=>gY h.next.nat Eg tTh 9 h' r (Wn A.mails box)∧Nw h h') _
 simp only [vvB,Nat.reduceEqDiff,reduceCtorEq,↓reduceIte,YE,ac3,ac2,ac1,aec,e1,R.len]
 refine Oc.then (dY (σ:=V) (n:=A.mails.length) (pi:=13) (pn:=12) (pc:=14) [5,11,1] (fun v=> [v,r,iV box]) (fun k v g=>Nw h1 g∧dA h1.next.nat (fun j=>h.next.nat≤j.nat∧j.nat<h1.next.nat) Eg tTh 9 g v (Wn (A.mails.take k) box))
  (A:=fun fr g=>∃v,fr.get (Pos.of 5)=some v∧Nw h1 g∧dA h1.next.nat (fun j=>h.next.nat≤j.nat∧j.nat<h1.next.nat) Eg tTh 9 g v (Wn A.mails box)) (B:=fun fr g=>False) (s:=.aG)
  (fun fr h _ k e1 e2=>by simp only [vvB,Nat.reduceEqDiff,reduceCtorEq,↓reduceIte,ac0,e1,e2]) (fun fr h k _ e1=>by simp (disch:=omega) only [vvB,Nat.reduceEqDiff,reduceCtorEq,↓reduceIte,ZG,e1]) (by decide) (by rw [dS];omega) (qK0) (qK0) (by simp only [Fa,vvB,Nat.reduceEqDiff,reduceCtorEq,↓reduceIte,and_self]) ⟨Nw.refl _,dA.nil _ _ _ _ _ _⟩ ?_ ?_) ?_ ?_
 ·intro k v fr g hk f13 f12 fa hI
  obtain⟨f5,f11,f1,-⟩:=fa
  obtain⟨c,o⟩:=hI
  obtain⟨m,hm⟩:∃m,A.mails[k]?=some m:=⟨_,List.getElem?_eq_getElem hk⟩
  obtain⟨i,q,cs,e1,⟨vk,vs,rfl,rk,rs⟩,-,-,-,-,e3⟩:=(R.nw dw c).elt hm
  have e3':=e3 g rfl
  have hsm:=hA.each m (List.mem_of_getElem? hm)
  obtain⟨g2,hg2⟩:∃g2,g2=g.new (.cells (.rw tMl true) (dM m vk vs)):=⟨_,rfl⟩
  have S2:aO 8 (.ptr g.next 0) (.agg (V.ofList (dM m vk vs))) (g.new (.cells (.rw tMl true) zMl))=.ok V.undef g2:=by rw [hg2];exact iF (V.dO _) rfl rfl
  have c2:Nw g g2:=by rw [hg2];exact Nw.new _ _
  have k2:Kn g2 g.next (.cells (.rw tMl true) (dM m vk vs)):=by rw [hg2];exact Kn.new _ _
  have L5:=k2.ld (q:=5) (x:=vs) rfl
  have rs2:=rs.nw (aQ _) c2
  have rk2:=rk.nw (aQ _) c2
  have hlen0:(Wn (A.mails.take k) box).length≤1000*1000:=by
   have:=aNZ (l:=A.mails.take k) (box:=box) fun m q=>(hA.each m (List.mem_of_mem_take q)).2
   rw [List.length_take] at this
   omega
  have hcn:=c.next
  have hn2:=c2.next
  simp only [vvB,Nat.reduceEqDiff,reduceCtorEq,↓reduceIte,acZ,acY,aeb,f5,f11,f13,e1,e3',S2,L5,rs2.len]
  refine Oc.out (Q:=fun o=>Rd _ _ _ _ _ _ _ _ _ _ (wF 1 o)) (dY (σ:=V) (n:=m.mem.length) (pi:=20) (pn:=19) (pc:=21) [5,11,1,7,18,13,12] (fun v=> [v,r,iV box,.ptr g.next 0,vs,iV k,iV A.mails.length]) (fun j v g'=>Nw h1 g'∧(Kn g' g.next (.cells (.rw tMl true) (dM m vk vs))∧Rws (fun j=>h.next.nat≤j.nat∧j.nat<h1.next.nat) (flat jH) 1 g' vk m.keys∧Rws (fun j=>h.next.nat≤j.nat∧j.nat<h1.next.nat) (flat iY) 2 g' vs m.mem∧aX v≠some g.next)∧dA h1.next.nat (fun j=>h.next.nat≤j.nat∧j.nat<h1.next.nat) Eg tTh 9 g' v (Wn (A.mails.take k) box++((m.mem.take j).filter fun x=>decide (x.1=box)).map fun x=>(x.2,m)))
   (A:=fun fr g'=>∃v,Fa fr [5,11,1,13,12] [v,r,iV box,iV k,iV A.mails.length]∧Nw h1 g'∧dA h1.next.nat (fun j=>h.next.nat≤j.nat∧j.nat<h1.next.nat) Eg tTh 9 g' v (Wn (A.mails.take (k+1)) box)) (B:=fun fr g=>False) (s:=v)
   (fun fr h _ k e1 e2=>by simp only [vvB,Nat.reduceEqDiff,reduceCtorEq,↓reduceIte,acX,e1,e2]) (fun fr h k _ e1=>by simp (disch:=omega) only [vvB,Nat.reduceEqDiff,reduceCtorEq,↓reduceIte,ZH,e1]) (by decide) (by rw [dS];omega) (qK0) (qK0) (by simp only [Fa,vvB,Nat.reduceEqDiff,reduceCtorEq,↓reduceIte,f1,f13,f12,f5,f11,and_self]) ⟨c.trans c2,⟨k2,rk2,rs2,fun e=>by have:=(o.dN e).2;omega⟩,by simpa using o.nw eH c2⟩ ?_ ?_) ?_ ?_
  ·intro j v fr g' hj f20 f19 fa hI
   obtain⟨f5,f11,f1,f7,f18,f13,f12,-⟩:=fa
   obtain⟨ca,⟨kq,rkq,rsq,hvq⟩,o⟩:=hI
   obtain⟨x,hx⟩:∃x,m.mem[j]?=some x:=⟨_,List.getElem?_eq_getElem hj⟩
   obtain⟨i,q,cs,e1,e2,-,-,-,-,e3⟩:=rsq.elt hx
   obtain rfl:cs=iY x:=e2
   have e3':=e3 g' rfl
   obtain⟨g3,hg3⟩:∃g3,g3=g'.new (.cells (.rw tMb true) (iY x)):=⟨_,rfl⟩
   have S3:aO 2 (.ptr g'.next 0) (.agg (V.ofList (iY x))) (g'.new (.cells (.rw tMb true) [(.int .i64 0),(.int .i64 0)]))=.ok V.undef g3:=by rw [hg3];exact iF (V.dO _) rfl rfl
   have c3:Nw g' g3:=by rw [hg3];exact Nw.new _ _
   have k3:Kn g3 g'.next (.cells (.rw tMb true) (iY x)):=by rw [hg3];exact Kn.new _ _
   have L0:=k3.ld (q:=0) (x:=iV x.1) rfl
   have L1:=k3.ld (q:=1) (x:=iV x.2) rfl
   have LM:=(kq.nw c3).ldN (n:=8) rfl
   have ht:(m.mem.take (j+1))=m.mem.take j++ [x]:=take_snoc hx
   by_cases hb:x.1=box
   ·have hbt:(x.1=box)=True:=eq_true hb
    have hc1:=ca.next
    have hc3:=c3.next
    have hsz:((Wn (A.mails.take k) box++((m.mem.take j).filter fun x=>decide (x.1=box)).map fun x=>(x.2,m)).length+1)*112≤140737488355328:=by
     have h1:((m.mem.take j).filter fun x=>decide (x.1=box)).length≤(m.mem.take j).length:=List.length_filter_le _ _
     rw [List.length_take] at h1
     rw [List.length_append,List.length_map]
     have:=hsm.2
     omega
    obtain⟨v',g4,e5,o5,c5,n5,ev⟩:=(o.nw eH c3).app1 (bt:=112) (x:=(x.2,m)) (cs:=thC (x.2,m) vk vs) (P':=fun j=>h.next.nat≤j.nat∧j.nat<h1.next.nat) eH (by omega) rfl (fun _ _ q=>q) ⟨vk,vs,rfl,rkq.nw (aQ _) c3,rsq.nw (aQ _) c3⟩ (fun j _ q e=>by have:=((o.nw eH c3).dN e).1;omega) hsz
    have e6:bI tTh zTh 1 [(0,9,.agg (V.ofList (thC (x.2,m) vk vs)))] g3=_:=aQa (x.2,m) vk vs g3
    have e7:bK zTh [(0,1,iV x.2),(1,8,.agg (V.ofList (dM m vk vs)))] g3=_:=bTh (x.2,m) vk vs g3
    simp only [vvB,Nat.reduceEqDiff,reduceCtorEq,↓reduceIte,QF,QE,acW,f18,f20,f1,f5,f7,e1,e3',S3,L0,L1,LM,hbt,e7,e6,e5]
    refine⟨qK2 f20,qK2 f19,v',by simp only [Fa,vvB,Nat.reduceEqDiff,reduceCtorEq,↓reduceIte,f11,f1,f7,f18,f13,f12,and_self],?_,?_,?_⟩
    ·exact(ca.trans c3).own c5 fun j e=>(o.dN e).1
    ·have hg:=kq.2
     refine⟨(kq.nw c3).ch c5 hvq,(rkq.nw (aQ _) c3).ch (aQ _) c5 fun j _ q=>⟨q,fun e=>?_⟩,(rsq.nw (aQ _) c3).ch (aQ _) c5 fun j _ q=>⟨q,fun e=>?_⟩,fun e=>?_⟩
     ·have:=(o.dN e).1;omega
     ·have:=(o.dN e).1;omega
     ·rw [ev] at e;injection e with e;have:=congrArg Pos.nat e;rw [Pos.eY] at this;omega
    ·rw [ht,List.filter_append,List.map_append,←List.append_assoc]
     simpa [hb] using o5
   ·have hbt:(x.1=box)=False:=eq_false hb
    simp only [vvB,Nat.reduceEqDiff,reduceCtorEq,↓reduceIte,QF,QE,f18,f20,f1,f5,f7,e1,e3',S3,L0,hbt]
    refine⟨qK2 f20,qK2 f19,v,by simp only [Fa,vvB,Nat.reduceEqDiff,reduceCtorEq,↓reduceIte,f5,f11,f1,f7,f18,f13,f12,and_self],ca.trans c3,⟨kq.nw c3,rkq.nw (aQ _) c3,rsq.nw (aQ _) c3,hvq⟩,?_⟩
    rw [ht,List.filter_append,List.map_append]
    simpa [hb] using o.nw eH c3
  ·intro v fr g' fa hI
   obtain⟨f5,f11,f1,f7,f18,f13,f12,-⟩:=fa
   obtain⟨ca,cb',o⟩:=hI
   refine⟨v,by simp only [Fa,vvB,Nat.reduceEqDiff,reduceCtorEq,↓reduceIte,f5,f11,f1,f13,f12,and_self],ca,?_⟩
   rw [List.take_length] at o
   rw [take_snoc hm,aKB];exact o
  ·rintro fr g' ⟨v,fa,ca,o⟩
   obtain⟨f5,f11,f1,f13,f12,-⟩:=fa
   exact⟨f13,f12,v,by simp only [Fa,vvB,Nat.reduceEqDiff,reduceCtorEq,↓reduceIte,f5,f11,f1,and_self],ca,o⟩
  ·intro fr g q;exact q.elim
 ·intro v fr g fa hI
  obtain⟨f5,f11,-⟩:=fa
  obtain⟨c,o⟩:=hI
  rw [List.take_length] at o
  exact⟨v,f5,c,o⟩
 ·rintro fr g ⟨v,f5,c,o⟩
  obtain⟨g5,e5,c5⟩:=alx (f:=.func (.func XU) .nil .nil) (o.rows (P':=fun j=>h.next.nat≤j.nat) eH (fun _ _ q=>q.1) fun _ q _=>by omega) eH h50 (ap8 _ (fun _ _ _=>rfl) hs _) (ap8 _ (fun _ _ _=>rfl) hs _) (ap8 _ (fun _ _ _=>rfl) hs _)
  simp only [vvB,Nat.reduceEqDiff,reduceCtorEq,↓reduceIte,ZF,ZE,f5,e5]
  exact aU.ret (r:=v) (qT0) ⟨(o.nw eH c5).wide eH (by omega) fun j hj q=>⟨q.1,fun e=>by have:=(o.dN e).1;omega⟩,(c1.trans c).trans c5⟩
 ·intro fr g q;exact q.elim
end Go.Proofs.Im

noncomputable section
namespace Go.Im
open Go Go.Vm
structure Mg where
 uid:Int
 id:Int
 told:Int
 at_:Pos
def mgC(x:Mg):List V:= [iV x.uid,iV x.id,.ptr x.at_ 0]
structure VwG (tV tM tA:TypeId) (b:Nat) (h:Hp) (pv:Pos) (box had:Int) (l:List Mg) (vv:V):Prop where
 vw:Kn h pv (.cells (.rw tV true) [iV box,vv,iV had])
 row:dA b (fun _=>False) (flat mgC) tM 3 h vv l
 told:∀x∈l,Kn h x.at_ (.cells (.rw tA true) [iV x.told])
 nd:(l.map (·.at_)).Nodup
 sep:∀x∈l,x.at_≠pv∧aX vv≠some x.at_
 nv:aX vv≠some pv
 lo:b≤pv.nat∧∀x∈l,b≤x.at_.nat
end Go.Im
namespace Go.Proofs.Im
open Go Go.Proofs Go.Vm Go.Im
set_option maxRecDepth 100000
variable{h h' g:Hp}{p pv:Pos}{vv:V}{b:Nat}{l:List Mg}{box had:Int}
abbrev abl(b:Nat)(h:Hp)(pv:Pos)(box had:Int)(l:List Mg)(vv:V):Prop:=VwG tVw tVm tAt b h pv box had l vv
abbrev zVm:List V:= [(.int .i64 0),(.int .i64 0),.bY]
theorem aQj(x:Mg):fD tVm zVm 1 [(0,3,.agg (V.ofList (mgC x)))]=some (.cells (.rw tVm true) (mgC x),fun p=>.slice p 0 1 (.kn 1)):=(rfl)
theorem bAt(h:Hp):bK [(.int .i64 0)] [] h=.ok (.agg (V.ofList [.int .i64 0])) h:=(rfl)
theorem abl.nw(a:abl b h pv box had l vv)(c:Nw h g):abl b g pv box had l vv where
 vw:=a.vw.nw c
 row:=a.row.nw (aQ _) c
 told:=fun x q=>(a.told x q).nw c
 nd:=a.nd
 sep:=a.sep
 nv:=a.nv
 lo:=a.lo
theorem aIy{P:Pos→Prop}(a:abl b h pv box had l vv)(hb:b≤h.next.nat)(hl:l.length≤1000){x:Int×Ml}{vk vs:V}:
  ∃u h' vv' q,acG [.ptr pv 0,.agg (V.ofList (thC x vk vs))] h=.ok u h'∧abl b h' pv box (max had x.1) (l++ [{uid:=x.1,id:=x.2.id,told:=x.2.mod,at_:=q}]) vv'∧Ch (fun j=>j=pv∨aX vv=some j) h h'∧(∀j,aX vv'=some j→h.next.nat≤j.nat):=by
 obtain⟨h1,hh1,c1,k1⟩:=mkW h (.cells (.rw tTh true) (thC x vk vs))
 obtain⟨h2,hh2,c2,k2⟩:=mkW h1 (.cells (.rw tAt true) [.int .i64 0])
 obtain⟨y,hy⟩:∃y:Mg,y={uid:=x.1,id:=x.2.id,told:=x.2.mod,at_:=h1.next}:=⟨_,rfl⟩
 obtain⟨h3,hh3,c3,k3⟩:=mkW h2 (.cells (.rw tVm true) (mgC y))
 have S3:aO 3 (.ptr h2.next 0) (.agg (V.ofList (mgC y))) (h2.new (.cells (.rw tVm true) zVm))=.ok V.undef h3:=by rw [hh3];exact iF (V.dO _) rfl rfl
 obtain⟨h4,hh4⟩:∃h4,h4=h3.put h1.next (some (.cells (.rw tAt true) [iV x.2.mod])):=⟨_,rfl⟩
 have c4:Ch (fun j=>j=h1.next) h3 h4:=by rw [hh4];exact Ch.put _ _ rfl
 obtain⟨u,e4⟩:=TQ (n:=x.2.mod) ((k2.nw c3)) (q:=0) (by decide)
 have e4:qE [.ptr h1.next 0,iV x.2.mod] h3=.ok u h4:=by rw [hh4];exact e4
 have k4:Kn h4 h1.next (.cells (.rw tAt true) [iV x.2.mod]):=by rw [hh4];exact(k2.nw c3).put _
 have B3:bK zVm [(0,1,iV x.1),(1,1,iV x.2.id),(2,1,.ptr h1.next 0)] h2=.ok (.agg (V.ofList (mgC y))) h2:=by subst hy;rfl
 have hn1:=c1.next
 have hn2:=c2.next
 have hn3:=c3.next
 have hn4:=c4.next
 have b1:h1.next.nat=h.next.nat+1:=by rw [hh1,aZ]
 have b2:h2.next.nat=h1.next.nat+1:=by rw [hh2,aZ]
 have c13:Nw h h3:=(c1.trans c2).trans c3
 have k14:=(k1.nw (c2.trans c3)).ch c4 fun e=>by have:=congrArg Pos.nat e;omega
 have k34:=k3.ch c4 fun e=>by have:=congrArg Pos.nat e;omega
 have c14:Nw h h4:=c13.then c4 fun j hj e=>by rw [e] at hj;omega
 have a4:=a.nw c14
 have L0:=(k1.nw c2).ld (q:=0) (x:=iV x.1) rfl
 have L0':=k1.ld (q:=0) (x:=iV x.1) rfl
 have L1':=k1.ld (q:=1) (x:=iV x.2.id) rfl
 have T3:=k3.ld (q:=2) (x:=.ptr h1.next 0) (by subst hy;rfl)
 have M3:=(k1.nw (c2.trans c3)).ld (q:=7) (x:=iV x.2.mod) rfl
 have L4:=(a4.vw.bump 1).ld (q:=1) (x:=vv) rfl
 have N4:=(k34.bump 1).ldN (n:=3) rfl
 have hpv:=a.vw.2
 obtain⟨w',h5,e5,o5,c5,n5,hw5⟩:=a4.row.awc (bt:=24) (x:=y) (by omega) rfl (by omega)
 have v5:=a4.vw.ch c5 a.nv
 have k15:=k14.ch c5 fun e=>by have:=(a.row.dN e).2;omega
 obtain⟨h6,hh6⟩:∃h6,h6=h5.put pv (some (.cells (.rw tVw true) [iV box,w',iV had])):=⟨_,rfl⟩
 have S6:aO 1 (.ptr pv 1) w' h5=.ok V.undef h6:=by rw [hh6];exact v5.st (q:=1) o5.cell (show 1<3 by omega)
 have v6:Kn h6 pv (.cells (.rw tVw true) [iV box,w',iV had]):=by rw [hh6];exact v5.put _
 have c6:Ch (fun j=>j=pv) h5 h6:=by rw [hh6];exact Ch.put _ _ rfl
 have k16:=k15.ch c6 fun e=>by have:=congrArg Pos.nat e;omega
 obtain⟨h7,hh7⟩:∃h7,h7=h6.put pv (some (.cells (.rw tVw true) [iV box,w',iV (max had x.1)])):=⟨_,rfl⟩
 have S7:aO 1 (.ptr pv 2) (iV (max had x.1)) h6=.ok V.undef h7:=by rw [hh7];exact v6.st (q:=2) ⟨rfl,rfl⟩ (show 2<3 by omega)
 have v7:Kn h7 pv (.cells (.rw tVw true) [iV box,w',iV (max had x.1)]):=by rw [hh7];exact v6.put _
 have c7:Ch (fun j=>j=pv) h6 h7:=by rw [hh7];exact Ch.put _ _ rfl
 have L6:=v6.ld (q:=2) (x:=iV had) rfl
 have M6:=k16.ld (q:=0) (x:=iV x.1) rfl
 have c67:Ch (fun j=>j=pv) h5 h7:=c6.trans c7 fun _ _ q=>q
 rw [azG]
 simp only [vvB,Nat.reduceEqDiff,reduceCtorEq,↓reduceIte,alW,aoi,aoh,aog,V.dF,←hh1,L0',L1',bAt,ahK,←hh2,B3,S3,T3,M3,e4]
 simp only [vvB,Nat.reduceEqDiff,reduceCtorEq,↓reduceIte,aof,L4,N4,aQj,e5,S6]
 simp only [vvB,Nat.reduceEqDiff,reduceCtorEq,↓reduceIte,aoe,L6,M6,S7]
 refine⟨_,h7,w',h1.next,by simp only [aT,bD,vvB,Nat.reduceEqDiff,reduceCtorEq,↓reduceIte,bF]<;>rfl,⟨v7,?_,?_,?_,?_,?_,?_⟩,?_,fun j e=>by have:=hw5 j e;omega⟩
 ·rw [←hy];exact o5.ch (aQ _) c67 (fun j hj e=>by have:=hw5 j hj;rw [e] at this;omega) fun _ _ q=>q.elim
 ·intro z hz
  rw [List.mem_append,List.mem_singleton] at hz
  rcases hz with hz|rfl
  ·have s:=a.sep z hz
   exact((a4.told z hz).ch c5 s.2).ch c67 s.1
  ·exact((show Kn h4 h1.next (.cells (.rw tAt true) [iV x.2.mod]) from k4).ch c5 fun e=>by have:=(a.row.dN e).2;omega).ch c67 fun e=>by have:=congrArg Pos.nat e;omega
 ·rw [List.map_append,List.nodup_append]
  refine⟨a.nd,by simp,?_⟩
  intro z hz z' hz' e
  obtain⟨m,hm,rfl⟩:=List.mem_map.1 hz
  simp at hz'
  subst hz'
  have:=(a.told m hm).2
  rw [e] at this;omega
 ·intro z hz
  rw [List.mem_append,List.mem_singleton] at hz
  rcases hz with hz|rfl
  ·have s:=a.sep z hz
   have:=(a.told z hz).2
   exact⟨s.1,fun e=>by have:=hw5 _ e;omega⟩
  ·exact⟨fun e=>by have:=congrArg Pos.nat e;simp only at this;omega,fun e=>by have:=hw5 _ e;simp only at this;omega⟩
 ·intro e;have:=hw5 _ e;omega
 ·refine⟨a.lo.1,fun z hz=>?_⟩
  rw [List.mem_append,List.mem_singleton] at hz
  rcases hz with hz|rfl
  ·exact a.lo.2 z hz
  ·show b≤h1.next.nat;omega
 ·exact(((Ch.refl _ h).trans c14 fun _ _ q=>q.elim).trans c5 fun j _ e=>.inr e).trans c67 fun j _ e=>.inl e
end Go.Proofs.Im
