/- Part of the value machine, or of a walk by it: lemmas that the claim's last text uses. No conditions. -/
import Derived.Test.YtpgppmioigacoaaGreatDoorSlAV
set_option linter.unusedVariables false
set_option linter.unusedSimpArgs false
set_option linter.unnecessarySimpa false
noncomputable section
namespace Go.Proofs.Im
open Go Go.Proofs Go.Vm Go.Ln Go.Im
set_option maxRecDepth 100000
variable{h h' g:Hp}{ps pl ib:Pos}{v vm vl:V}{s t nm:List Nat}{n k:Nat}{P F I:Pos→Prop}{fs:List (List Nat×List Nat)}{A:Acc}{cb:Cap}{fb:Bool}
theorem aEr(r:Rws P (flat qQ) 2 h v fs)(hl:fs.length≤1000000)(hf:∀x∈fs,Sm 1000000 x.1∧Sm 1000000 x.2)(hn:Sm 1000000 nm):∃t f h',TP [v,.str nm] h=.ok (.tuple (.cons (.str t) (.cons (.bool f) .nil))) h'∧Sm 1000000 t∧Nw h h':=by
 suffices T:aU Tryz.prog [.tmp 4,.tmp 5] (fun r h'=>∃t f,r=.tuple (.cons (.str t) (.cons (.bool f) .nil))∧Sm 1000000 t∧Nw h h') (Tt (T.set (some (.str nm)) (Pos.of 1) (T.set (some v) (Pos.of 0) T.nil)) h) by
  obtain⟨r,h',e,t,f,rfl,q⟩:=T
  exact⟨t,f,h',by rw [aty];exact e,q⟩
 simp (disch:=omega) only [vvB,Nat.reduceEqDiff,reduceCtorEq,↓reduceIte,Tt,agL,agK,r.len]
 refine Oc.then (dY (σ:=Unit) (n:=fs.length) (pi:=10) (pn:=9) (pc:=11) [1,8] (fun _=> [.str nm,v]) (fun k _ g=>Nw h g)
  (A:=fun fr g=>Nw h g) (B:=fun fr g=>∃t f,fr.get (Pos.of 4)=some (.str t)∧fr.get (Pos.of 5)=some (.bool f)∧Sm 1000000 t∧Nw h g) (s:=())
  (fun fr h _ k e1 e2=>by simp only [vvB,Nat.reduceEqDiff,reduceCtorEq,↓reduceIte,agJ,e1,e2]) (fun fr h k _ e1=>by simp (disch:=omega) only [vvB,Nat.reduceEqDiff,reduceCtorEq,↓reduceIte,agH,e1]) (by decide) (by rw [dS];omega) (qK1) (qK0) (by simp only [Fa,vvB,Nat.reduceEqDiff,reduceCtorEq,↓reduceIte,and_self]) (Nw.refl _) ?_ ?_) ?_ ?_
 ·intro k _ fr g hk f10 f9 fa hI
  obtain⟨f1,f8,-⟩:=fa
  obtain⟨x,hx⟩:∃x,fs[k]?=some x:=⟨_,List.getElem?_eq_getElem hk⟩
  obtain⟨hx1,hx2⟩:=hf x (List.mem_of_getElem? hx)
  obtain⟨i,q,cs,ix,ex,-,-,-,ld,ldN⟩:=(r.nw (aQ _) hI).elt hx
  obtain rfl:cs=qQ x:=ex
  have LN:=ldN g rfl
  obtain⟨g1,hg1⟩:∃g1,g1=g.new (.cells (.rw tFl true) (qQ x)):=⟨_,rfl⟩
  have S1:aO 2 (.ptr g.next 0) (.agg (V.ofList (qQ x))) (g.new (.cells (.rw tFl true) [(.str []),(.str [])]))=.ok V.undef g1:=by rw [hg1];exact iF (V.dO _) rfl rfl
  have c1:Nw g g1:=by rw [hg1];exact Nw.new _ _
  have k1:Kn g1 g.next (.cells (.rw tFl true) (qQ x)):=by rw [hg1];exact Kn.new _ _
  have L0:=k1.ld (q:=0) (x:=.str x.1) rfl
  obtain⟨g2,e2,c2⟩:=Zg g1 (show x.1.length<1000000000 by have:=hx1.1;omega) hx1.2
  obtain⟨g3,e3,c3⟩:=Zg g2 (show nm.length<1000000000 by have:=hn.1;omega) hn.2
  have c13:=(c1.trans c2).trans c3
  have L1:=((k1.nw c2).nw c3).ld (q:=1) (x:=.str x.2) rfl
  by_cases hq:foldM x.1=foldM nm
  ·have eq:=eq_true hq
   simp (disch:=omega) only [vvB,Nat.reduceEqDiff,reduceCtorEq,↓reduceIte,VJ,VI,agI,f1,f8,f10,ix,LN,S1,L0,e2,e3,eq,decide_true,L1]
   exact⟨x.2,true,qK0,qK0,hx2,hI.trans c13⟩
  ·have eq:=eq_false hq
   simp (disch:=omega) only [vvB,Nat.reduceEqDiff,reduceCtorEq,↓reduceIte,VJ,VI,f1,f8,f10,ix,LN,S1,L0,e2,e3,eq,decide_false]
   exact⟨qK2 f10,qK2 f9,(),by simp only [Fa,vvB,Nat.reduceEqDiff,reduceCtorEq,↓reduceIte,f1,f8,and_self],hI.trans c13⟩
 ·intro _ fr g fa hI;exact hI
 ·intro fr g hI
  simp (disch:=omega) only [vvB,Nat.reduceEqDiff,reduceCtorEq,↓reduceIte,agG]
  exact aU.ret (qT0) ⟨[],false,rfl,Sm.nil _,hI⟩
 ·rintro fr g ⟨t,f,f4,f5,ht,hI⟩
  exact aU.ret (by simp only [bD,vvB,Nat.reduceEqDiff,reduceCtorEq,↓reduceIte,f4,f5,bF]<;>rfl) ⟨t,f,rfl,ht,hI⟩
theorem afP(hs:Sm 1000000 s)(hn:Sm 1000000 nm):∃t h',CY [.str s,.str nm] h=.ok (.str t) h'∧Nw h h':=by
 obtain⟨v,b,fs,h1,e1,r1,hl,hf,c1⟩:=aEp (h:=h) hs
 obtain⟨t,f,h2,e2,ht,c2⟩:=aEr r1 hl hf hn
 refine⟨t,h2,?_,c1.trans c2⟩
 rw [aps]
 simp (disch:=omega) only [vvB,Nat.reduceEqDiff,reduceCtorEq,↓reduceIte,VX,ZU,ZT,ZR,ZQ,e1,e2]
 simp only [aT,bD,vvB,Nat.reduceEqDiff,reduceCtorEq,↓reduceIte,bF]
theorem EW(x y:V)(g:Hp):dX YD (.func (.func air) .nil .nil) [x,y] g=CY [x,y] g:=(rfl)
theorem axw(a:dL h F ps A pl ib cb fb vm vl I)(hA:A.Small)(hm:∀m∈A.mails,Sm 1000000 m.text)(ht:Sm 1000000 t):∃i h',NT [.ptr ps 0,.str t] h=.ok (iV i) h'∧Nw h h'∧(i=0∨∃m∈A.mails,i=m.thread):=by
 have sn1:Sm 1000000 [105,110,45,114,101,112,108,121,45,116,111]:=⟨by decide,by decide⟩
 have sn2:Sm 1000000 [109,101,115,115,97,103,101,45,105,100]:=⟨by decide,by decide⟩
 obtain⟨u,h1,e1,c1⟩:=afP (h:=h) ht sn1
 suffices T:aU Tryz.prog [.tmp 4] (fun r h'=>∃i,r=iV i∧Nw h h'∧(i=0∨∃m∈A.mails,i=m.thread)) (EL (T.set (some (.str t)) (Pos.of 1) (T.set (some (.ptr ps 0)) (Pos.of 0) T.nil)) h) by
  obtain⟨r,h',e,i,rfl,q⟩:=T
  exact⟨i,h',by rw [aq3];exact e,q⟩
 by_cases hz:u= []
 ·have ez:=eq_true hz
  simp (disch:=omega) only [vvB,Nat.reduceEqDiff,reduceCtorEq,↓reduceIte,EL,QL,QK,QJ,QI,ady,EW,e1,ez,decide_true]
  exact aU.ret (qT0) ⟨0,rfl,c1,.inl rfl⟩
 have ez:=eq_false hz
 have a1:=a.nw c1
 have L1:=a1.st.ld (q:=11) (x:=vm) rfl
 have R1:=a1.ml.rws
 have hml:=hA.mails
 simp (disch:=omega) only [vvB,Nat.reduceEqDiff,reduceCtorEq,↓reduceIte,EL,QL,QK,QJ,QI,adx,EW,e1,ez,decide_false,L1,R1.len]
 refine Oc.then (dY (σ:=Unit) (n:=A.mails.length) (pi:=19) (pn:=18) (pc:=20) [5,6,17] (fun _=> [.func (.func air) .nil .nil,.str u,vm]) (fun k _ g=>Nw h g∧Nw h1 g)
  (A:=fun fr g=>Nw h g) (B:=fun fr g=>∃i,fr.get (Pos.of 4)=some (iV i)∧Nw h g∧∃m∈A.mails,i=m.thread) (s:=())
  (fun fr h _ k e1 e2=>by simp only [vvB,Nat.reduceEqDiff,reduceCtorEq,↓reduceIte,adw,e1,e2]) (fun fr h k _ e1=>by simp (disch:=omega) only [vvB,Nat.reduceEqDiff,reduceCtorEq,↓reduceIte,ZW,e1]) (by decide) (by rw [dS];omega) (qK1) (qK0) (by simp only [Fa,vvB,Nat.reduceEqDiff,reduceCtorEq,↓reduceIte,and_self]) ⟨c1,Nw.refl _⟩ ?_ ?_) ?_ ?_
 ·intro k _ fr g hk f19 f18 fa hI
  obtain⟨f5,f6,f17,-⟩:=fa
  obtain⟨hI,hI1⟩:=hI
  obtain⟨m,hx⟩:∃x,A.mails[k]?=some x:=⟨_,List.getElem?_eq_getElem hk⟩
  have hmm:=List.mem_of_getElem? hx
  obtain⟨i,q,cs,ix,ex,-,-,-,ld,ldN⟩:=(R1.nw dw hI1).elt hx
  obtain⟨vk,vs,rfl,-,-⟩:=ex
  have LN:=ldN g rfl
  obtain⟨g1,hg1⟩:∃g1,g1=g.new (.cells (.rw tMl true) (dM m vk vs)):=⟨_,rfl⟩
  have S1:aO 8 (.ptr g.next 0) (.agg (V.ofList (dM m vk vs))) (g.new (.cells (.rw tMl true) [(.int .i64 0),(.int .i64 0),(.str []),(.int .i64 0),.aG,.aG,(.int .i64 0),(.int .i64 0)]))=.ok V.undef g1:=by rw [hg1];exact iF (V.dO _) rfl rfl
  have k1:Kn g1 g.next (.cells (.rw tMl true) (dM m vk vs)):=by rw [hg1];exact Kn.new _ _
  have cg1:Nw g g1:=by rw [hg1];exact Nw.new _ _
  have L2:=k1.ld (q:=2) (x:=.str m.text) rfl
  obtain⟨x,g2,e2,c2⟩:=afP (h:=g1) (hm m hmm) sn2
  have L3:=(k1.nw c2).ld (q:=1) (x:=iV m.thread) rfl
  have c12:=cg1.trans c2
  by_cases hq:x=u
  ·have eq:=eq_true hq
   simp (disch:=omega) only [vvB,Nat.reduceEqDiff,reduceCtorEq,↓reduceIte,QH,QG,adv,f5,f6,f17,f19,ix,LN,S1,L2,EW,e2,eq,decide_true,L3]
   exact⟨m.thread,qK0,hI.trans c12,m,hmm,rfl⟩
  ·have eq:=eq_false hq
   simp (disch:=omega) only [vvB,Nat.reduceEqDiff,reduceCtorEq,↓reduceIte,QH,QG,f5,f6,f17,f19,ix,LN,S1,L2,EW,e2,eq,decide_false]
   exact⟨qK2 f19,qK2 f18,(),by simp only [Fa,vvB,Nat.reduceEqDiff,reduceCtorEq,↓reduceIte,f5,f6,f17,and_self],hI.trans c12,hI1.trans c12⟩
 ·intro _ fr g fa hI;exact hI.1
 ·intro fr g hI
  simp (disch:=omega) only [vvB,Nat.reduceEqDiff,reduceCtorEq,↓reduceIte,ZV]
  exact aU.ret (qT0) ⟨0,rfl,hI,.inl rfl⟩
 ·rintro fr g ⟨i,f4,hI,hm⟩
  exact aU.ret (qT1 f4) ⟨i,rfl,hI,.inr hm⟩
end Go.Proofs.Im

noncomputable section
namespace Go.Proofs.Im
open Go Go.Proofs Go.Vm Go.Ln Go.Im
set_option maxRecDepth 100000
variable{h h' g:Hp}{P F I:Pos→Prop}{ps pl ib p cp i:Pos}{A:Acc}{cb:Cap}{fb only:Bool}{v vm vl:V}{id:Int}{k f n kb:Nat}{b:Bx}
theorem axv(a:dL h F ps A pl ib cb fb vm vl I)(hA:A.Small){w:Wr}(kc:Kn h cp (.cells w [.ptr ps 0]))(hf:A.boxes.findIdx? (fun b=>decide (b.id=id))=some kb):∃h',CX [iV id,.ptr cp 0] h=.ok (.bool false) h'∧Nw h h':=by
 have L:=kc.ld (q:=0) (x:=.ptr ps 0) rfl
 obtain⟨h1,e1,c1⟩:=abG a hA id
 rw [hf] at e1
 simp only [iH] at e1
 have hd:((kb:Int)<0)=False:=eq_false (by omega)
 rw [apr]
 simp only [vvB,Nat.reduceEqDiff,reduceCtorEq,↓reduceIte,VW,ZO,ZN,L,e1,hd]
 exact⟨h1,by simp only [aT,bD,vvB,Nat.reduceEqDiff,reduceCtorEq,↓reduceIte,bF],c1⟩
theorem as2(p:Pos)(x:V)(g:Hp):dX qh (.func (.func Ei) .nil (.cons (.ptr p 0) .nil)) [x] g=CX [x,.ptr p 0] g:=(rfl)
theorem ay9(p:Pos)(x:V)(g:Hp):dX qh (.func (.func Oa) (.cons (.ptr p 0) .nil) .nil) [x] g=JG [.ptr p 0,x] g:=(rfl)
theorem azj(a:dL h F ps A pl ib cb fb vm vl I)(hA:A.Small)(r:Rws P (flat iD) 1 h v [id])(hf:A.boxes.findIdx? (fun b=>decide (b.id=id))=some kb):
  ∃w h',NS [.ptr ps 0,v] h=.ok (.tuple (.cons w (.cons (.bool true) .nil))) h'∧Rws (fun j=>h.next.nat≤j.nat) (flat iD) 1 h' w [id]∧Nw h h':=by
 obtain⟨h1,hh1,c1,k1⟩:=mkW h (.cells (.rw tPs true) [.ptr ps 0])
 have B1:fV tPs (.ptr ps 0) h=.ok (.ptr h.next 0) h1:=by rw [hh1];rfl
 obtain⟨w,h2,e2,r2,c2,o2⟩:=akf (r.nw (aQ _) c1) (by simp)
 have o2:=o2.resolve_left (by simp)
 obtain⟨h3,e3,o3,c3⟩:=anQ o2 (by simp)
 rw [aaW ltI (by simp)] at o3
 have n1:=c1.next
 have n2:=c2.next
 have n3:=c3.next
 have c23:Nw h1 h3:=c2.then c3 fun j hj e=>by have:=(o2.dN e).1;omega
 have r3:=o3.rows (P':=fun j=>h.next.nat≤j.nat) (aQ _) (fun _ _ q=>q.elim) fun j q _=>by omega
 have e4:=aef r3 (by simp)
 obtain⟨h5,e5,c5⟩:=P6 r3 (aQ _) (fun _=>false) (by simp) (f:=.func (.func Ei) .nil (.cons (.ptr h.next 0) .nil)) (fun x y g hx cg e=>by
  cases(show [y]= [V.int .i64 x] from e)
  simp at hx
  subst hx
  obtain⟨g',e6,c6⟩:=axv ((a.nw (c1.trans c23)).nw cg) hA ((k1.nw c23).nw cg) hf
  exact⟨g',by rw [as2];exact e6,c6⟩)
 have e5':jm [w,.func (.func Ei) .nil (.cons (.ptr h.next 0) .nil)] h3=.ok (.bool false) h5:=by
  have:([id].any fun _=>false)=false:=rfl
  rw [this] at e5;exact e5
 have FF:∀g,fK (.func Ei) [] [.ptr h.next 0] g=.ok (.func (.func Ei) .nil (.cons (.ptr h.next 0) .nil)) g:=fun g=>rfl
 rw [aq1]
 simp only [vvB,Nat.reduceEqDiff,reduceCtorEq,↓reduceIte,YG,adi,adh,adg,adf,ade,B1,e2,e3,e4,FF,e5']
 exact⟨w,h5,by simp only [aT,bD,vvB,Nat.reduceEqDiff,reduceCtorEq,↓reduceIte,bF]<;>rfl,r3.nw (aQ _) c5,(c1.trans c23).trans c5⟩
theorem dL.aIk(a:dL h F ps A pl ib cb fb vm vl I)(hk:A.boxes[k]?=some b):∀g,g.get ib=h.get ib→∀f y,(fQ b)[f]?=some y→aF (.ptr ib (k*6+f)) g=.ok y g:=by
 have hlt:=(List.getElem?_eq_some_iff.1 hk).1
 obtain⟨i,q,cs,ix,ex,-,-,-,ld,-⟩:=a.bxr.elt hk
 obtain rfl:cs=fQ b:=ex
 have:=ix h
 rw [wK hlt] at this
 cases this
 exact ld
theorem aDO(a:dL h F ps A pl ib cb fb vm vl I)(hA:A.Small)(hf:A.boxes.findIdx? (fun b=>decide (b.id=id))=some kb)(hk:A.boxes[kb]?=some b)(hn:b.next≤1000000):∃h',JG [.ptr ps 0,iV id] h=.ok (.bool false) h'∧Nw h h':=by
 obtain⟨h1,e1,c1⟩:=abG a hA id
 rw [hf] at e1
 simp only [iH] at e1
 have hlt:=(List.getElem?_eq_some_iff.1 hk).1
 have a1:=a.nw c1
 have L:=a.st.ld (q:=10) (x:=.slice ib 0 A.boxes.length cb) rfl
 have L1:=a1.st.ld (q:=10) (x:=.slice ib 0 A.boxes.length cb) rfl
 have M:=a.st.ld (q:=5) (x:=iV 1073741824) rfl
 have M1:=a1.st.ld (q:=5) (x:=iV 1073741824) rfl
 have ix:=fun g=>wK (sz:=6) (i:=ib) (c:=cb) hlt g
 have ld:=a1.aIk hk h1 rfl 4 (iV b.next) rfl
 have hd:(b.next>1073741824)=False:=eq_false (by omega)
 have cL:∀{k:Out},chk (fun h=>aF (.ptr ps 10) h) (.slice ib 0 A.boxes.length cb) k 1 [h]=k:=Bl a.bxr.noF L
 have cM:∀{k:Out},chk (fun h=>aF (.ptr ps 5) h) (iV 1073741824) k 1 [h]=k:=Bl rfl M
 rw [atl]
 simp only [vvB,Nat.reduceEqDiff,reduceCtorEq,↓reduceIte,ab9,afV,afU,e1,L1,cL,ix,ld,M1,cM,hd]
 exact⟨h1,by simp only [aT,bD,vvB,Nat.reduceEqDiff,reduceCtorEq,↓reduceIte,bF],c1⟩
theorem aKm(x:V)(h:Hp):vT Tryz.prog tMb x h=bW 2 x h:=by kernel_rfl
theorem azk(a:dL h F ps A pl ib cb fb vm vl I)(hA:A.Small)(hf:A.boxes.findIdx? (fun b=>decide (b.id=id))=some kb)(hk:A.boxes[kb]?=some b)(hn:0≤b.next∧b.next≤1000000):
  ∃h',NU [.ptr ps 0,iV id] h=.ok (.agg (V.ofList (iY (id,b.next)))) h'∧dL h' F ps {A with boxes:=updB id (fun b=>{b with next:=b.next+1}) A.boxes} pl ib cb fb vm vl I∧Ch (fun j=>j=ib) h h':=by
 obtain⟨h1,hh1,c1,k1⟩:=mkW h (.cells (.rw tMb true) [(.int .i64 0),(.int .i64 0)])
 have a1:=a.nw c1
 obtain⟨h2,e2,c2⟩:=abG a1 hA id
 rw [hf] at e2
 simp only [iH] at e2
 have a2:=a1.nw c2
 have hlt:=(List.getElem?_eq_some_iff.1 hk).1
 have L1:=a1.st.ld (q:=10) (x:=.slice ib 0 A.boxes.length cb) rfl
 have L2:=a2.st.ld (q:=10) (x:=.slice ib 0 A.boxes.length cb) rfl
 have cL:∀{k:Out},chk (fun h=>aF (.ptr ps 10) h) (.slice ib 0 A.boxes.length cb) k 1 [h1]=k:=Bl a.bxr.noF L1
 have ix:=fun g=>wK (sz:=6) (i:=ib) (c:=cb) hlt g
 have ld:=a2.aIk hk h2 rfl 4 (iV b.next) rfl
 obtain⟨b',hb'⟩:∃b':Bx,b'={b with next:=b.next+1}:=⟨_,rfl⟩
 have S3:=a2.aNR hk (f:=4) (by omega) (y:=b.next+1) (b':=b') (by rw [hb'];rfl)
 obtain⟨h3,hh3⟩:∃h3,h3=h2.put ib (some (.cells (.rw tBx fb) ((A.boxes.set kb b').map fQ).flatten)):=⟨_,rfl⟩
 rw [←hh3] at S3
 have a3:dL h3 F ps {A with boxes:=A.boxes.set kb b'} pl ib cb fb vm vl I:=by rw [hh3];exact a2.aJo (by rw [List.length_set])
 have c3:Ch (fun j=>j=ib) h2 h3:=by rw [hh3];exact Ch.put _ _ rfl
 have ld3:=a3.aIk (k:=kb) (b:=b') (by rw [List.getElem?_set_self hlt]) h3 rfl 4 (iV (b.next+1)) (by rw [hb'];rfl)
 have hib:=a.bx.2
 have k3:=(k1.nw c2).ch c3 fun e=>by rw [←e] at hib;omega
 obtain⟨h4,hh4⟩:∃h4,h4=h3.put h.next (some (.cells (.rw tMb true) (iY (id,b.next)))):=⟨_,rfl⟩
 have S4:aO 2 (.ptr h.next 0) (.agg (V.ofList (iY (id,b.next)))) h3=.ok V.undef h4:=by rw [hh4];exact k3.stN rfl rfl
 have S4':aO 2 (.ptr h.next 0) (.agg (.cons (.int .i64 id) (.cons (.int .i64 b.next) .nil))) h3=.ok V.undef h4:=S4
 have k4:Kn h4 h.next (.cells (.rw tMb true) (iY (id,b.next))):=by rw [hh4];exact k3.put _
 have c4:Ch (fun j=>j=h.next) h3 h4:=by rw [hh4];exact Ch.put _ _ rfl
 have a4:=a3.ch c4 fun j f e=>by have:=a.lt j f;rw [e] at this;omega
 have hup:updB id (fun b=>{b with next:=b.next+1}) A.boxes=A.boxes.set kb b':=by
  obtain⟨x,hx,e⟩:=akj (f:=fun b:Bx=>{b with next:=b.next+1}) hf
  rw [hk] at hx;cases hx
  rw [e,hb']
 have ad:∀g,aI .add .none (.int .i64 b.next) (.int .i64 1) g=.ok (.int .i64 (b.next+1)) g:=fun g=>FK (by omega) (by omega)
 have sb:∀g,aI .sub .none (.int .i64 (b.next+1)) (.int .i64 1) g=.ok (.int .i64 b.next) g:=fun g=>by
  rw [aaR (by omega) (by omega)];congr 2;omega
 have NC:∀g,aK (.ptr ib (kb*6)) g=.ok (.ptr ib (kb*6)) g:=fun g=>rfl
 rw [aq4]
 simp (disch:=omega) only [vvB,Nat.reduceEqDiff,reduceCtorEq,↓reduceIte,YI,adC,adB,adA,adz,←hh1,e2,L2,cL,ix,NC,ld,ad,S3,ld3,sb,S4']
 refine⟨h4,by simp only [aT,bD,vvB,Nat.reduceEqDiff,reduceCtorEq,↓reduceIte,aKm,k4.ldN (n:=2) rfl,bF],by rw [hup];exact a4,?_⟩
 exact((c1.trans c2).ch.trans c3 fun _ _ q=>q).trans c4 fun j hj e=>by rw [e] at hj;omega
end Go.Proofs.Im

noncomputable section
namespace Go.Im
open Go Go.Vm Go.Ln
def Dh(A:Acc)(i:Int):Int:=if i=0 then A.lastId+1 else i
def ae9(i:Int):Int:=if i=0 then 1 else 2
def avh(A:Acc)(b:Bx)(at_:Int)(t:List Nat)(ks:List (List Nat))(i:Int):Ml:={id:=A.lastId+1,thread:=Dh A i,text:=t,at_:=at_,keys:=ks,mem:= [(b.id,b.next)],mod:=A.clock+1,born:=A.clock+1}
def Zo(A:Acc)(b:Bx)(at_:Int)(t:List Nat)(ks:List (List Nat))(i:Int):Acc:=
 {clock:=A.clock+1
  boxes:=ny (A.clock+1) [b.id] (updB b.id (fun b=>{b with next:=b.next+1}) A.boxes)
  mails:=A.mails++ [avh A b at_ t ks i]
  ents:=A.ents++([ql (A.clock+1) b.id]++ [({mod:=A.clock+1,kind:=2,id:=A.lastId+1,how:=1}:En),{mod:=A.clock+1,kind:=3,id:=Dh A i,how:=ae9 i}])
  floor:=A.floor
  lastBox:=A.lastBox
  lastId:=A.lastId+1
  octets:=A.octets+(t.length:Int)}
structure CanApp (A:Acc) (k:Nat) (b:Bx):Prop where
 small:A.Small
 logged:A.Logged
 at_:A.boxes[k]?=some b
 find:A.boxes.findIdx? (fun x=>decide (x.id=b.id))=some k
 next:0≤b.next∧b.next≤900000
 clock:A.clock<900000
 lastId:0≤A.lastId∧A.lastId<900000
 ents:A.ents.length≤8000
 mails:A.mails.length≤900
 oct:0≤A.octets∧A.octets≤900000
 texts:∀m∈A.mails,Sm 1000000 m.text
end Go.Im
namespace Go.Proofs.Im
open Go Go.Proofs Go.Vm Go.Ln Go.Im
set_option maxRecDepth 100000
variable{h g h0:Hp}{F I I2:Pos→Prop}{ps pl ib p i:Pos}{A:Acc}{cb:Cap}{fb only:Bool}{vm vl:V}{f:Nat}{b:Bx}
theorem dL.aPE(a:dL h F ps A pl ib cb fb vm vl I){B0:Nat}(hF:∀j,F j→j.nat<B0){m':Ml}{v':V}(o:dA 0 I2 kG tMl 8 g v' (A.mails++ [m']))(c:Ch (fun j=>aX vm=some j) h g)(hv:∀j,aX v'=some j→h.next.nat≤j.nat)(hI2:∀j,I2 j→I j∨(B0≤j.nat∧j.nat<h.next.nat))(hB:B0≤h.next.nat):
  dL (g.put ps (some (.cells (.rw tSt true) (stC {A with mails:=A.mails++ [m']} ib cb v' pl)))) (fun j=>F j∨I2 j∨aX v'=some j) ps {A with mails:=A.mails++ [m']} pl ib cb fb v' vl I2∧
   dA 0 I2 kG tMl 8 (g.put ps (some (.cells (.rw tSt true) (stC {A with mails:=A.mails++ [m']} ib cb v' pl)))) v' (A.mails++ [m']):=by
 have ks:=a.st.ch c fun e=>(a.nm ps e).1 rfl
 have c2:Ch (fun j=>j=ps) g (g.put ps (some (.cells (.rw tSt true) (stC {A with mails:=A.mails++ [m']} ib cb v' pl)))):=Ch.put _ _ rfl
 have ca:Ch (fun j=>aX vm=some j∨j=ps) h (g.put ps (some (.cells (.rw tSt true) (stC {A with mails:=A.mails++ [m']} ib cb v' pl)))):=(c.mono fun _ _ e=>.inl e).trans c2 fun _ _ e=>.inr e
 have hps:=hF _ a.foot.1
 have hpl:=hF _ a.foot.2.1
 have hib:=hF _ a.foot.2.2.1
 have hI2ps:∀j,I2 j→j≠ps∧j≠pl∧j≠ib∧aX vl≠some j:=fun j q=>by
  rcases hI2 j q with q|q
  ·have:=a.inn j q;exact⟨this.2.1,this.2.2.1,this.2.2.2.1,this.2.2.2.2.2⟩
  ·exact⟨fun e=>by rw [e] at q;omega,fun e=>by rw [e] at q;omega,fun e=>by rw [e] at q;omega,fun e=>by have:=hF _ (a.foot.2.2.2.2 j e);omega⟩
 have hI2lt:∀j,I2 j→j.nat<h.next.nat:=fun j q=>(hI2 j q).elim (fun q=>a.lt j (a.inn j q).1) fun q=>q.2
 have hvps:∀j,aX v'=some j→j≠ps:=fun j e e'=>by have:=hv j e;rw [e'] at this;omega
 have o':dA 0 I2 kG tMl 8 (g.put ps (some (.cells (.rw tSt true) (stC {A with mails:=A.mails++ [m']} ib cb v' pl)))) v' (A.mails++ [m']):=o.ch dw c2 (fun j e e'=>hvps j e e') fun j _ q=>⟨q,(hI2ps j q).1⟩
 refine⟨⟨ks.put _,a.lg.ch ca fun e=>e.elim (fun e=>(a.nm pl e).2.1 rfl) fun e=>a.ne.1 e.symm,a.bx.ch ca fun e=>e.elim (fun e=>(a.nm ib e).2.2.1 rfl) fun e=>a.ne.2.1 e.symm,a.cap,?_,?_,a.ne,?_,a.nl,?_,?_,?_,a.enil⟩,o'⟩
 ·obtain⟨css,x,hw,s⟩:=o'
  refine⟨css,x,hw,?_⟩
  rcases s.is with⟨h0,e⟩|⟨i,e,hb,hi,f,hg⟩
  ·simp at h0
  ·exact .inr ⟨i,f,[],e,by simpa using hg,hi⟩
 ·obtain⟨css,x,hw,s⟩:=a.en
  exact⟨css,x.mono fun _ _ e=>e,hw,s.ch ca fun j hj e=>e.elim (fun e=>(a.nm j e).2.2.2 hj) (a.nl j hj).1⟩
 ·intro j e
  have:=hv j e
  exact⟨hvps j e,fun e'=>by rw [e'] at this;omega,fun e'=>by rw [e'] at this;omega,fun e'=>by have:=a.lt j (a.foot.2.2.2.2 j e');omega⟩
 ·intro j q
  have:=hI2ps j q
  exact⟨.inr (.inl q),this.1,this.2.1,this.2.2.1,fun e=>by have:=hv j e;have:=hI2lt j q;omega,this.2.2.2⟩
 ·exact⟨.inl a.foot.1,.inl a.foot.2.1,.inl a.foot.2.2.1,fun j e=>.inr (.inr e),fun j e=>.inl (a.foot.2.2.2.2 j e)⟩
 ·intro j q
  have hn:=ca.next
  rcases q with q|q|q
  ·have:=a.lt j q;omega
  ·have:=hI2lt j q;omega
  ·exact(o'.dN q).2
theorem bM0{w:V}(hw:w.cells= [w]∧gu w=true)(a b:Int)(t:List Nat)(c d e:Int)(h:Hp):bK zMl [(0,1,.int .i64 a),(1,1,.int .i64 b),(2,1,.str t),(3,1,.int .i64 c),(4,1,w),(6,1,.int .i64 d),(7,1,.int .i64 e)] h=.ok (.agg (V.ofList [.int .i64 a,.int .i64 b,.str t,.int .i64 c,w,.aG,.int .i64 d,.int .i64 e])) h:=by
 unfold bK
 simp only [NJ,hw.1,hw.2]
 rfl
theorem aNX:aqo tMl zMl=some (.cells (.rw tMl true) zMl,fun p=>.ptr p 0):=(rfl)
theorem aQk(x:Int×Int):fD tMb [(.int .i64 0),(.int .i64 0)] 1 [(0,2,.agg (V.ofList (iY x)))]=some (.cells (.rw tMb true) (iY x),fun p=>.slice p 0 1 (.kn 1)):=(rfl)
theorem aQi(m:Ml)(vk vs:V):fD tMl zMl 1 [(0,8,.agg (V.ofList (dM m vk vs)))]=some (.cells (.rw tMl true) (dM m vk vs),fun p=>.slice p 0 1 (.kn 1)):=(rfl)
end Go.Proofs.Im

noncomputable section
namespace Go.Proofs.Im
open Go Go.Proofs Go.Vm Go.Ln Go.Im
set_option maxRecDepth 100000
variable{h h' g:Hp}{P F I S I2:Pos→Prop}{ps pl ib p pc cp i:Pos}{A B:Acc}{cb:Cap}{fb only:Bool}{v vm vl:V}{id:Int}{k f n kb:Nat}{b:Bx}
theorem axy{ks:List (List Nat)}{t:List Nat}{vk:V}{Pk:Pos→Prop}(a:dL h F ps A pl ib cb fb vm vl I)(ho:dA 0 I kG tMl 8 h vm A.mails)(hC:CanApp A kb b)(r:Rws P (flat iD) 1 h v [b.id]){at_:Int}(hat:0≤at_∧at_≤1000000)
  (rk:Rws Pk (flat jH) 1 h vk ks) (hks:∀k∈ks,amG k=true) (hkl:ks.length≤1) (ht:Sm 100000 t):
  ∃i rr h' F' vm' vl' I',NW [.ptr ps 0,v,vk,.int .i64 at_,.str t] h=.ok rr h'∧dL h' F' ps (Zo A b at_ t ks i) pl ib cb fb vm' vl' I'∧dA 0 I' kG tMl 8 h' vm' (Zo A b at_ t ks i).mails∧Ch F h h'∧∀j,F' j→F j∨h.next.nat≤j.nat:=by
 have hA:=hC.small
 have hcl:=hC.clock
 have hcl0:=hA.clock
 have hid:=hC.lastId
 have hmails:=hC.mails
 have hoct:=hC.oct
 have hents:=hC.ents
 obtain⟨w1,h1,e1,r1,c1⟩:=aG6 rk hks hkl
 obtain⟨w2,h2,e2,r2,c2⟩:=azj (a.nw c1) hA (r.nw (aQ _) c1) hC.find
 have c02:=c1.trans c2
 have a2:=a.nw c02
 have n1:=c1.next
 have n2:=c2.next
 have L2:=a2.st.ld (q:=11) (x:=vm) rfl
 have M2:=a2.st.ld (q:=2) (x:=iV 1000) rfl
 have M4:=a2.st.ld (q:=4) (x:=iV 1048576) rfl
 have M15:=a2.st.ld (q:=15) (x:=iV A.octets) rfl
 have lm:=a2.ml.rws.len h2
 have e3:=asj a2 hA
 obtain⟨h3,e4,c3⟩:=P6 r2 (aQ _) (fun _=>false) (by simp) (f:=.func (.func Oa) (.cons (.ptr ps 0) .nil) .nil) (fun x y g hx cg e=>by
  cases(show [y]= [V.int .i64 x] from e)
  simp at hx
  subst hx
  obtain⟨g',e6,c6⟩:=aDO (a2.nw cg) hA hC.find hC.at_ (by have:=hC.next;omega)
  exact⟨g',by rw [ay9];exact e6,c6⟩)
 have e4':jm [w2,.func (.func Oa) (.cons (.ptr ps 0) .nil) .nil] h2=.ok (.bool false) h3:=by
  have:([b.id].any fun _=>false)=false:=rfl
  rw [this] at e4;exact e4
 have FF:∀g,fK (.func Oa) [.ptr ps 0] [] g=.ok (.func (.func Oa) (.cons (.ptr ps 0) .nil) .nil) g:=fun g=>rfl
 have a3:=a2.nw c3
 have c03:=c02.trans c3
 have n3:=c3.next
 have e5:=asi a3 hA
 obtain⟨h4,hh4⟩:∃h4,h4=h3.put ps (some (.cells (.rw tSt true) (stC {A with clock:=A.clock+1} ib cb vm pl))):=⟨_,rfl⟩
 rw [←hh4] at e5
 have a4:dL h4 F ps {A with clock:=A.clock+1} pl ib cb fb vm vl I:=by rw [hh4];exact a3.amA rfl rfl rfl rfl
 have c4:Ch (fun j=>j=ps) h3 h4:=by rw [hh4];exact Ch.put _ _ rfl
 have L14:=a4.st.ld (q:=14) (x:=iV A.lastId) rfl
 obtain⟨A5,hA5⟩:∃A5:Acc,A5={A with clock:=A.clock+1,lastId:=A.lastId+1}:=⟨_,rfl⟩
 obtain⟨h5,hh5⟩:∃h5,h5=h4.put ps (some (.cells (.rw tSt true) (stC A5 ib cb vm pl))):=⟨_,rfl⟩
 have S5:aO 1 (.ptr ps 14) (iV (A.lastId+1)) h4=.ok V.undef h5:=by rw [hh5,hA5];exact a4.st.st (q:=14) ⟨rfl,rfl⟩ (show 14<16 by omega)
 have a5:dL h5 F ps A5 pl ib cb fb vm vl I:=by rw [hh5,hA5];exact a4.amA (B:={A with clock:=A.clock+1,lastId:=A.lastId+1}) rfl rfl rfl rfl
 have c5:Ch (fun j=>j=ps) h4 h5:=by rw [hh5];exact Ch.put _ _ rfl
 have c35:Ch (fun j=>j=ps) h3 h5:=c4.trans c5 fun _ _ q=>q
 have n5:=c35.next
 have b5:=a5.nw (Nw.bump 1 h5)
 have L5:=a5.st.ld (q:=14) (x:=iV (A.lastId+1)) (by rw [hA5];rfl)
 have L5b:=b5.st.ld (q:=14) (x:=iV (A.lastId+1)) (by rw [hA5];rfl)
 have hA5s:A5.Small:=by rw [hA5];exact⟨by show 0≤A.clock+1∧A.clock+1<1000000;omega,hA.boxes,hA.mails,hA.ents,hA.each⟩
 obtain⟨i,hT,eT,cT,-⟩:=axw (t:=t) b5 hA5s (by rw [hA5];exact hC.texts) (ht.mono (by omega))
 have L5T:=(b5.nw cT).st.ld (q:=14) (x:=iV (A.lastId+1)) (by rw [hA5];rfl)
 have nT:=cT.next
 have nb5:(aH 1 h5).next.nat=h5.next.nat+1:=qp _ _
 obtain⟨p,hp⟩:∃p,p=h5.next:=⟨_,rfl⟩
 have hpn:p.nat=h5.next.nat:=congrArg Pos.nat hp
 have kz:Kn (hT.put p (some (.cells (.rw tMl true) zMl))) p (.cells (.rw tMl true) zMl):=⟨dJ _ _ _,by rw [jr];omega⟩
 obtain⟨h6,hh6⟩:∃h6,h6=hT.put p (some (.cells (.rw tMl true) [iV (A.lastId+1),iV i,.str t,iV at_,w1,.aG,iV (A.clock+1),iV (A.clock+1)])):=⟨_,rfl⟩
 have S6:aO 8 (.ptr p 0) (.agg (V.ofList [iV (A.lastId+1),iV i,.str t,iV at_,w1,.aG,iV (A.clock+1),iV (A.clock+1)])) (hT.put p (some (.cells (.rw tMl true) zMl)))=.ok V.undef h6:=by
  rw [hh6,kz.stN (n:=8) rfl rfl,ahz]
 have c6:Nw h5 h6:=((Nw.bump 1 h5).trans cT).then (by rw [hh6];exact Ch.put (S:=fun j=>j=p) _ _ rfl) fun j hj e=>by rw [e] at hj;omega
 have k6:Kn h6 p (.cells (.rw tMl true) [iV (A.lastId+1),iV i,.str t,iV at_,w1,.aG,iV (A.clock+1),iV (A.clock+1)]):=by rw [hh6];exact⟨dJ _ _ _,by rw [jr];omega⟩
 have n6:h5.next.nat+1≤h6.next.nat:=by rw [hh6,jr];omega
 have T6:=k6.ld (q:=1) (x:=iV i) rfl
 have I6:=k6.ld (q:=0) (x:=iV (A.lastId+1)) rfl
 have s7:∃h7,(i=0→aO 1 (.ptr p 1) (iV (A.lastId+1)) h6=.ok V.undef h7)∧(¬i=0→h7=h6)∧Kn h7 p (.cells (.rw tMl true) [iV (A.lastId+1),iV (Dh A i),.str t,iV at_,w1,.aG,iV (A.clock+1),iV (A.clock+1)])∧Ch (fun j=>j=p) h6 h7:=by
  by_cases hi:i=0
  ·refine⟨h6.put p (some (.cells (.rw tMl true) [iV (A.lastId+1),iV (A.lastId+1),.str t,iV at_,w1,.aG,iV (A.clock+1),iV (A.clock+1)])),fun _=>k6.st (q:=1) ⟨rfl,rfl⟩ (by simp),fun h=>absurd hi h,?_,Ch.put _ _ rfl⟩
   unfold Dh;rw [if_pos hi];exact k6.put _
  ·refine⟨h6,fun h=>absurd h hi,fun _=>rfl,?_,Ch.refl _ _⟩
   unfold Dh;rw [if_neg hi];exact k6
 obtain⟨h7,S7,E7,k7,c7⟩:=s7
 have n7:=c7.next
 have c57:Nw h5 h7:=c6.then c7 fun j hj e=>by rw [e,hp] at hj;omega
 have a7:=a5.nw c57
 have r7:=(r2.nw (aQ _) c3).ch (P':=fun j=>h1.next.nat≤j.nat∧j.nat<h3.next.nat) (aQ _) c35 fun j hj q=>⟨⟨q,hj⟩,fun e=>by have:=a.st.2;rw [e] at q;omega⟩
 have r7:=r7.nw (aQ _) c57
 have hfj:∀j,F j→j.nat<h.next.nat:=a.lt
 have hbx5:A5.boxes=A.boxes:=by rw [hA5]
 have a7b:=a7.nw (Nw.bump 1 h7)
 have nb7:(aH 1 h7).next.nat=h7.next.nat+1:=qp _ _
 obtain⟨h8,e8,a8,c8⟩:=azk (id:=b.id) a7b hA5s (by rw [hbx5];exact hC.find) (by rw [hbx5];exact hC.at_) (by have:=hC.next;omega)
 have k7b:=k7.bump 1
 have hib:=hfj _ a.foot.2.2.1
 have k8:=k7b.ch c8 fun e=>by rw [e] at hp;have:=congrArg Pos.nat hp;omega
 have M7:=k7.ld (q:=5) (x:=.aG) rfl
 have M7b:=k7b.ld (q:=5) (x:=.aG) rfl
 have M8:=k8.ld (q:=5) (x:=.aG) rfl
 have n8:=c8.next
 obtain⟨h9,hh9⟩:∃h9,h9=h8.put h7.next (some (.cells (.rw tMb true) (iY (b.id,b.next)))):=⟨_,rfl⟩
 have c9:Ch (fun j=>j=h7.next) h8 h9:=by rw [hh9];exact Ch.put _ _ rfl
 have n9:h9.next.nat=h8.next.nat:=by rw [hh9];rfl
 have k9m:Kn h9 h7.next (.cells (.rw tMb true) ([(b.id,b.next)].map iY).flatten):=by rw [hh9];exact⟨dJ _ _ _,by rw [jr];omega⟩
 have t9:Rws (fun j=>j=h7.next) (flat iY) 2 h9 (.slice h7.next 0 1 (.kn 1)) [(b.id,b.next)]:=Kn.rws (c:=iY) (l:= [(b.id,b.next)]) (cp:=.kn 1) (sz:=2) k9m (fun _=>rfl) (fun _ _ _ _ e=>by cases e;exact Nat.le_refl _)
 have k9:=k8.ch c9 fun e=>by have:=k7.2;rw [e] at this;omega
 have a9:=a8.ch c9 fun j f e=>by have:=hfj j f;rw [e] at this;omega
 obtain⟨w10,h10,e10,o10,c10⟩:=aqm (el:=tMb) (bt:=16) (Rws.aG (fun _=>False) (flat iY) 2 h9) (.inl ⟨rfl,rfl⟩) t9 (by simp) (by simp)
 rw [List.nil_append] at o10
 have k10:=k9.nw c10
 have a10:=a9.nw c10
 have n10:=c10.next
 obtain⟨m,hm⟩:∃m,m=avh A b at_ t ks i:=⟨_,rfl⟩
 obtain⟨h11,hh11⟩:∃h11,h11=h10.put p (some (.cells (.rw tMl true) (dM m w1 w10))):=⟨_,rfl⟩
 have S11:aO 1 (.ptr p 5) w10 h10=.ok V.undef h11:=by rw [hh11,hm];exact k10.st (q:=5) o10.cell (by simp)
 have k11:Kn h11 p (.cells (.rw tMl true) (dM m w1 w10)):=by rw [hh11];exact k10.put _
 have c11:Ch (fun j=>j=p) h10 h11:=by rw [hh11];exact Ch.put _ _ rfl
 have a11:=a10.ch c11 fun j f e=>by have:=hfj j f;rw [e] at this;omega
 have n11:=c11.next
 have hkeep:∀j:Pos,j.nat<h7.next.nat→j≠ib→j≠p→h11.get j=h7.get j:=fun j hj hi hp'=>by
  have q8:=c8.get j (by omega) hi
  have q9:=c9.get j (by omega) fun e=>by rw [e] at hj;omega
  have q10:=c10.get j (by omega) fun q=>q
  have q11:=c11.get j (by omega) hp'
  rw [q11,q10,q9,q8];rfl
 have c711:Ch (fun j=>j=ib∨j=p) h7 h11:=⟨by omega,fun j hj hn=>hkeep j hj (fun e=>hn (.inl e)) fun e=>hn (.inr e)⟩
 have hI:∀j,I j→j.nat<h.next.nat∧j≠ps∧j≠ib:=fun j q=>⟨hfj j (a.inn j q).1,(a.inn j q).2.1,(a.inn j q).2.2.2.1⟩
 have hvm:∀j,aX vm=some j→j.nat<h.next.nat∧j≠ps∧j≠ib:=fun j e=>⟨hfj j (a.foot.2.2.2.1 j e),(a.nm j e).1,(a.nm j e).2.2.1⟩
 have ho11:dA 0 I kG tMl 8 h11 vm A.mails:=by
  have o3:=ho.nw dw c03
  have o5:=o3.ch (P':=I) dw c35 (fun j e e'=>(hvm j e).2.1 e') fun j _ q=>⟨q,(hI j q).2.1⟩
  exact(o5.nw dw c57).ch dw c711 (fun j e e'=>e'.elim (hvm j e).2.2 fun e'=>by have:=(hvm j e).1;rw [e'] at this;omega) fun j _ q=>⟨q,fun e'=>e'.elim (hI j q).2.2 fun e'=>by have:=(hI j q).1;rw [e'] at this;omega⟩
 obtain⟨I2,hI2⟩:∃I2:Pos→Prop,I2=fun j=>I j∨(h.next.nat≤j.nat∧j.nat<h11.next.nat∧j≠p):=⟨_,rfl⟩
 have xm:kG I2 h11 m (dM m w1 w10):=by
  refine⟨w1,w10,rfl,?_,?_⟩
  ·have rk:Rws (fun j=>h.next.nat≤j.nat∧j.nat<h1.next.nat) (flat jH) 1 h1 w1 ks:=r1.mono (aQ _) fun j hj q=>⟨q,hj⟩
   have rk3:=rk.nw (aQ _) (c2.trans c3)
   have rk5:=rk3.ch (P':=fun j=>h.next.nat≤j.nat∧j.nat<h1.next.nat) (aQ _) c35 fun j _ q=>⟨q,fun e=>by have:=a.st.2;rw [e] at q;omega⟩
   have rk7:=rk5.nw (aQ _) c57
   rw [hm]
   exact rk7.ch (aQ _) c711 fun j _ q=>⟨by rw [hI2];exact .inr ⟨q.1,by omega,fun e=>by rw [e] at q;omega⟩,fun e=>e.elim (fun e=>by rw [e] at q;omega) fun e=>by rw [e] at q;omega⟩
  ·rw [hm]
   have rm:Rws (fun j=>h9.next.nat≤j.nat∧j.nat<h10.next.nat) (flat iY) 2 h10 w10 [(b.id,b.next)]:=(o10.rows (P':=fun j=>h9.next.nat≤j.nat) (aQ _) (fun _ _ q=>q.elim) fun _ q _=>q).mono (aQ _) fun j hj q=>⟨q,hj⟩
   exact rm.ch (aQ _) c11 fun j _ q=>⟨by rw [hI2];exact .inr ⟨by omega,by omega,fun e=>by rw [e] at q;omega⟩,fun e=>by rw [e] at q;omega⟩
 obtain⟨vm',h12,e12,o12,c12,n12,ev12⟩:=ho11.app1 (bt:=104) (x:=m) (cs:=dM m w1 w10) (P':=I2) dw (Nat.zero_le _) rfl (fun j _ q=>by rw [hI2];exact .inl q) xm (fun j _ q e=>by
  rw [hI2] at q
  rcases q with q|q
  ·exact(a.inn j q).2.2.2.2.1 e
  ·have:=(hvm j e).1;omega) (by omega)
 have e12':bT tMl 8 104 vm (.slice h11.next 0 1 (.kn 1)) (h11.new (.cells (.rw tMl true) (dM m w1 w10)))=.ok vm' h12:=e12
 have hput11:(aH 1 h11).put h11.next (some (.cells (.rw tMl true) (dM m w1 w10)))=h11.new (.cells (.rw tMl true) (dM m w1 w10)):=rfl
 have hv12:∀j,aX vm'=some j→h11.next.nat≤j.nat:=fun j e=>by rw [ev12] at e;cases e;rw [Pos.eY];omega
 obtain⟨A8,hA8⟩:∃A8:Acc,A8={A5 with boxes:=updB b.id (fun b=>{b with next:=b.next+1}) A5.boxes}:=⟨_,rfl⟩
 rw [←hA8] at a8 a9 a10 a11
 have hm8:A8.mails=A.mails:=by rw [hA8,hA5]
 have o12':dA 0 I2 kG tMl 8 h12 vm' (A8.mails++ [m]):=by rw [hm8];exact o12
 obtain⟨a13,o13⟩:=a11.aPE (B0:=h.next.nat) hfj (m':=m) o12' c12 hv12 (fun j q=>by rw [hI2] at q;exact q.imp id fun q=>⟨q.1,q.2.1⟩) (by omega)
 obtain⟨A13,hA13⟩:∃A13:Acc,A13={A8 with mails:=A8.mails++ [m]}:=⟨_,rfl⟩
 rw [←hA13] at a13 o13
 obtain⟨h13,hh13⟩:∃h13,h13=h12.put ps (some (.cells (.rw tSt true) (stC A13 ib cb vm' pl))):=⟨_,rfl⟩
 rw [←hh13] at a13 o13
 have ks12:=a11.st.ch c12 fun e=>(a11.nm ps e).1 rfl
 have S13:aO 1 (.ptr ps 11) vm' h12=.ok V.undef h13:=by rw [hh13,hA13];exact ks12.st (q:=11) (by rw [ev12];exact⟨rfl,rfl⟩) (show 11<16 by omega)
 have c13:Ch (fun j=>j=ps) h12 h13:=by rw [hh13];exact Ch.put _ _ rfl
 have n12':=c12.next
 have n13:=c13.next
 have L11:=a11.st.ld (q:=11) (x:=vm) rfl
 have L11b:=(a11.nw (Nw.bump 1 h11)).st.ld (q:=11) (x:=vm) rfl
 have N11b:=(k11.bump 1).ldN (n:=8) rfl
 have hpps:p≠ps:=fun e=>by have:=a.st.2;rw [←e] at this;omega
 have k13:=(k11.ch c12 fun e=>by have:=(hvm p e).1;omega).ch c13 hpps
 have L15:=a13.st.ld (q:=15) (x:=iV A13.octets) rfl
 have ho13:A13.octets=A.octets:=by rw [hA13,hA8,hA5]
 obtain⟨A14,hA14⟩:∃A14:Acc,A14={A13 with octets:=A13.octets+(t.length:Int)}:=⟨_,rfl⟩
 obtain⟨h14,hh14⟩:∃h14,h14=h13.put ps (some (.cells (.rw tSt true) (stC A14 ib cb vm' pl))):=⟨_,rfl⟩
 have S14:aO 1 (.ptr ps 15) (iV (A13.octets+(t.length:Int))) h13=.ok V.undef h14:=by rw [hh14,hA14];exact a13.st.st (q:=15) ⟨rfl,rfl⟩ (show 15<16 by omega)
 have a14:=a13.amA (B:={A13 with octets:=A13.octets+(t.length:Int)}) rfl rfl rfl rfl
 rw [←hA14] at a14
 rw [←hh14] at a14
 have c14:Ch (fun j=>j=ps) h13 h14:=by rw [hh14];exact Ch.put _ _ rfl
 have o14:dA 0 I2 kG tMl 8 h14 vm' A14.mails:=by
  have:A14.mails=A8.mails++ [m]:=by rw [hA14,hA13]
  rw [this]
  exact o13.ch dw c14 (fun j e e'=>(a13.nm j e).1 e') fun j _ q=>⟨q,(a13.inn j q).2.1⟩
 have n14:=c14.next
 have k14:=k13.ch c14 hpps
 have a14b:=a14.nw (Nw.bump 1 h14)
 have nb14:(aH 1 h14).next.nat=h14.next.nat+1:=qp _ _
 have hA13s:A13.Small:=by
  rw [hA13]
  refine⟨by rw [hA8];exact hA5s.clock,by rw [hA8];show 0<(updB _ _ A5.boxes).length∧_;rw [atZ];exact hA5s.boxes,by show(A8.mails++ [m]).length≤1000;rw [hm8,List.length_append];show A.mails.length+1≤1000;omega,by rw [hA8];exact hA5s.ents,fun x hx=>?_⟩
  rw [show(({A8 with mails:=A8.mails++ [m]}:Acc).mails)=A8.mails++ [m] from rfl,List.mem_append,hm8] at hx
  rcases hx with hx|hx
  ·exact hA.each x hx
  ·simp at hx;rw [hx,hm];exact⟨by simp [avh];try omega,by simp [avh];try omega⟩
 have hA14s:A14.Small:=by rw [hA14];exact⟨hA13s.clock,hA13s.boxes,hA13s.mails,hA13s.ents,hA13s.each⟩
 have r14:Rws (fun j=>h1.next.nat≤j.nat∧j.nat<h3.next.nat) (flat iD) 1 (aH 1 h14) w2 [b.id]:=by
  have q11:=r7.ch (P':=fun j=>h1.next.nat≤j.nat∧j.nat<h3.next.nat) (aQ _) c711 fun j _ q=>⟨q,fun e=>e.elim (fun e=>by rw [e] at q;omega) fun e=>by rw [e] at q;omega⟩
  have q12:=q11.ch (P':=fun j=>h1.next.nat≤j.nat∧j.nat<h3.next.nat) (aQ _) c12 fun j _ q=>⟨q,fun e=>by have:=(hvm j e).1;omega⟩
  have q14:=q12.ch (P':=fun j=>h1.next.nat≤j.nat∧j.nat<h3.next.nat) (aQ _) (c13.trans c14 fun _ _ q=>q) fun j _ q=>⟨q,fun e=>by have:=a.st.2;rw [e] at q;omega⟩
  exact q14.nw (aQ _) (Nw.bump 1 h14)
 have hbx13:A14.boxes=updB b.id (fun b=>{b with next:=b.next+1}) A.boxes:=by rw [hA14,hA13,hA8,hA5]
 obtain⟨w15,h15,e15,a15,r15,f15,c15⟩:=aiE a14b hA14s r14 (by simp) (A.clock+1) (aaW ltI (by simp)) (fun k x y _ hy=>by simp at hy) (fun x hx=>by
  simp at hx;subst hx
  exact⟨kb,by rw [hbx13,arj (f:=fun b:Bx=>{b with next:=b.next+1}) (fun _=>rfl)];exact hC.find⟩)
 have n15:=c15.next
 have k14b:=k14.bump 1
 have k15:=k14b.ch c15 fun e=>by rw [e] at hpn;omega
 obtain⟨es2,hes2⟩:∃es2:List En,es2= [({mod:=A.clock+1,kind:=2,id:=A.lastId+1,how:=1}:En),{mod:=A.clock+1,kind:=3,id:=Dh A i,how:=ae9 i}]:=⟨_,rfl⟩
 obtain⟨h16,hh16⟩:∃h16,h16=h15.put h14.next (some (.cells (.rw tEn true) (es2.map iI).flatten)):=⟨_,rfl⟩
 have c16:Ch (fun j=>j=h14.next) h15 h16:=by rw [hh16];exact Ch.put _ _ rfl
 have n16:h16.next.nat=h15.next.nat:=by rw [hh16];rfl
 have k16:Kn h16 h14.next (.cells (.rw tEn true) (es2.map iI).flatten):=by rw [hh16];exact⟨dJ _ _ _,by rw [jr];omega⟩
 have a16:=a15.ch c16 fun j f e=>by have:=a14.lt j f;rw [e] at this;omega
 have r16:=r15.ch (P':=fun j=>(aH 1 h14).next.nat≤j.nat) (aQ _) c16 fun j _ q=>⟨q,fun e=>by rw [e] at q;omega⟩
 have hl2:es2.length=2:=by rw [hes2];rfl
 have t16:Rws (fun j=>j=h14.next) (flat iI) 4 h16 (.slice h14.next 0 2 (.kn 2)) es2:=by
  have:=Kn.rws (c:=iI) (l:=es2) (cp:=.kn 2) (sz:=4) k16 (fun _=>rfl) (fun _ _ _ _ e=>by cases e;exact Nat.le_of_eq hl2)
  rwa [hl2] at this
 have hfl:XK w15 ([b.id].map (ql (A.clock+1))).length:=by rw [List.length_map];exact f15
 obtain⟨w17,h17,e17,o17,c17⟩:=aqm (el:=tEn) (bt:=32) r16 hfl t16 (by rw [hes2];simp) (by rw [hl2];simp)
 have a17:=a16.nw c17
 have n17:=c17.next
 have r17:=o17.rows (P':=fun j=>h16.next.nat≤j.nat) (aQ _) (fun _ _ q=>q.elim) fun _ q _=>q
 have hent17:A14.ents=A.ents:=by rw [hA14,hA13,hA8,hA5]
 have hc17:∀e∈ [b.id].map (ql (A.clock+1))++es2,e.mod=A.clock+1:=fun e he=>by
  rcases List.mem_append.1 he with q|q
  ·obtain⟨id,_,rfl⟩:=List.mem_map.1 q;rfl
  ·rw [hes2] at q;simp at q;rcases q with q|q<;>rw [q]
 have hl17:∀e∈A14.ents,e.mod≤A.clock+1:=fun e he=>by
  have he':e∈A.ents:=by rw [←hent17];exact he
  have:=hC.logged.mods e he';omega
 have hn17:A14.ents.length+([b.id].map (ql (A.clock+1))++es2).length≤10000:=by
  rw [hent17,List.length_append,List.length_map,hl2]
  simp;omega
 obtain⟨u18,h18,vl',e18,kl18,ol18,c18,hv18⟩:=axA a17.lg a17.en r17 (fun j e=>(a17.nl j e).2.1) (fun j hj pj=>⟨fun e=>by have:=a14.lt pl a14.foot.2.1;rw [e] at pj;omega,fun e=>by have:=a14.lt j (a14.foot.2.2.2.2 j e);omega⟩) hc17 hl17 hn17
 have a18:=a17.aJl kl18 ol18 c18 hv18 (by rw [hes2];simp)
 have n18:=c18.next
 have k17:=(k15.ch c16 fun e=>by have:=k14.2;rw [e] at this;omega).nw c17
 have hpF:¬(F p∨I2 p∨aX vm'=some p):=fun e=>by
  rcases e with e|e|e
  ·have:=hfj p e;omega
  ·rw [hI2] at e
   rcases e with e|e
   ·have:=(hI p e).1;omega
   ·exact e.2.2 rfl
  ·have:=hv12 p e;omega
 have k18:=k17.ch c18 fun e=>hpF (.inl (e.elim (fun e=>by rw [e];exact a.foot.2.1) fun e=>a.foot.2.2.2.2 p e))
 have Id:∀{g:Hp},Kn g p (.cells (.rw tMl true) (dM m w1 w10))→aF (.ptr p 0) g=.ok (iV (A.lastId+1)) g:=fun k=>k.ld (q:=0) (by rw [hm];rfl)
 have Th:∀{g:Hp},Kn g p (.cells (.rw tMl true) (dM m w1 w10))→aF (.ptr p 1) g=.ok (iV (Dh A i)) g:=fun k=>k.ld (q:=1) (by rw [hm];rfl)
 have Lp:∀{g:Hp} {F:Pos→Prop} {B:Acc} {vm vl:V} {I:Pos→Prop},dL g F ps B pl ib cb fb vm vl I→aF (.ptr ps 12) g=.ok (.ptr pl 0) g:=fun a=>a.st.ld (q:=12) rfl
 refine⟨i,.tuple (.cons (iV (A.lastId+1)) (.cons (iV 0) .nil)),h18,fun j=>(F j∨I2 j∨aX vm'=some j)∨aX vl'=some j,vm',vl',I2,?_,?_,?_,?_,?_⟩
 ·rw [aq6]
  suffices T:aU Tryz.prog [.tmp 10,.tmp 11] (fun r h'=>r=.tuple (.cons (iV (A.lastId+1)) (.cons (iV 0) .nil))∧h'=h18) (EM (T.set (some (.str t)) (Pos.of 4) (T.set (some (.int .i64 at_)) (Pos.of 3) (T.set (some vk) (Pos.of 2) (T.set (some v) (Pos.of 1) (T.set (some (.ptr ps 0)) (Pos.of 0) T.nil))))) h) by
   obtain⟨r,h',e,rfl,rfl⟩:=T;exact e
  have r1l:=r.len h
  have bM:=fun h=>bM0 r1.cell (A.lastId+1) i t at_ (A.clock+1) (A.clock+1) h
  have cT:∀{k:Out},chk (fun h=>aF (.ptr ps 14) h) (iV (A.lastId+1)) k 1 [aH 1 h5]=k:=Bl rfl L5b
  have w2l:=r7.len h7
  have htl:=ht.1
  have hgt0:((t.length:Int)>1048576 - A.octets)=False:=eq_false (by omega)
  have hge0:((A.mails.length:Int)≥1000)=False:=eq_false (by omega)
  have sb:∀g,aI .sub .none (.int .i64 1048576) (.int .i64 A.octets) g=.ok (.int .i64 (1048576 - A.octets)) g:=fun g=>aaR (by omega) (by omega)
  have ad14:∀g,aI .add .none (.int .i64 A.lastId) (.int .i64 1) g=.ok (.int .i64 (A.lastId+1)) g:=fun g=>FK (by omega) (by omega)
  have l1:(([b.id].length:Nat):Int)=1:=rfl
  have lt0:(at_<0)=False:=eq_false (by omega)
  have gt0:(at_>253402300799)=False:=eq_false (by omega)
  rw [l1] at r1l w2l
  have rest:∀fr:Go.Vm.F,fr.get (Pos.of 0)=some (.ptr ps 0)→fr.get (Pos.of 4)=some (.str t)→fr.get (Pos.of 14)=some w2→fr.get (Pos.of 16)=some (iV (A.clock+1))→fr.get (Pos.of 17)=some (.ptr p 0)→fr.get (Pos.of 18)=some (.int .i64 (ae9 i))→fr.get (Pos.of 111)=some w2→fr.get (Pos.of 112)=some (.int .i64 ((1:Nat):Int))→fr.get (Pos.of 113)=some (.int .i64 0)→
    aU Tryz.prog [.tmp 10,.tmp 11] (fun r h'=>r=.tuple (.cons (iV (A.lastId+1)) (.cons (iV 0) .nil))∧h'=h18) (nC (wF 1 (dI aan lf fr h7)) (aB LP (aB LK (aB LJ (aB LH Out.ret))))):=by
   intro fr g0 g4 g14 g16 g17 g18 g111 g112 g113
   refine Oc.then (dY (σ:=Unit) (n:=1) (pi:=113) (pn:=112) (pc:=114) [0,4,14,16,17,18,111] (fun _=> [.ptr ps 0,.str t,w2,iV (A.clock+1),.ptr p 0,.int .i64 (ae9 i),w2]) (fun k _ g=>(k=0∧g=h7)∨(k=1∧g=h11))
    (A:=fun fr g=>Fa fr [0,4,14,16,17,18] [.ptr ps 0,.str t,w2,iV (A.clock+1),.ptr p 0,.int .i64 (ae9 i)]∧g=h11) (B:=fun _ _=>False) (s:=())
    (fun fr h _ k e1 e2=>by simp only [vvB,Nat.reduceEqDiff,reduceCtorEq,↓reduceIte,Z5,e1,e2]) (fun fr h k _ e1=>by simp (disch:=omega) only [vvB,Nat.reduceEqDiff,reduceCtorEq,↓reduceIte,ZX,e1]) (by decide) (by rw [dS];omega) g113 g112 ⟨g0,g4,g14,g16,g17,g18,g111,trivial⟩ (.inl ⟨rfl,rfl⟩) ?_ ?_) ?_ ?_
   ·intro k _ fr g hk f113 f112 fa hI
    obtain⟨f0,f4,f14,f16,f17,f18,f111,-⟩:=fa
    rcases hI with⟨rfl,rfl⟩|⟨h1,-⟩
    ·obtain⟨ii,q,cs,ix,ex,-,-,-,ld,-⟩:=r7.elt (k:=0) (x:=b.id) rfl
     obtain rfl:cs=iD b.id:=ex
     have ld':=ld g rfl 0 (iV b.id) rfl
     rw [Nat.add_zero] at ld'
     have cN:∀{k:Out},chk (fun h=>aF (.ptr p 5) h) .aG k 1 [aH 1 g]=k:=Bl rfl M7b
     simp (disch:=omega) only [vvB,Nat.reduceEqDiff,reduceCtorEq,↓reduceIte,Z4,ZY,f0,f17,f111,f113,ix,ld',e8,M8,cN,aQk,←hh9,e10,S11]
     exact⟨qK2 f113,qK2 f112,(),by simp only [Fa,vvB,Nat.reduceEqDiff,reduceCtorEq,↓reduceIte,f0,f4,f14,f16,f17,f18,f111,and_self],.inr (by first|exact⟨trivial,rfl⟩|exact⟨rfl,rfl⟩)⟩
    ·omega
   ·intro _ fr g fa hI
    obtain⟨f0,f4,f14,f16,f17,f18,-⟩:=fa
    rcases hI with⟨h1,-⟩|⟨-,rfl⟩
    ·omega
    ·exact⟨by simp only [Fa,f0,f4,f14,f16,f17,f18,and_self],rfl⟩
   ·rintro fr g ⟨⟨f0,f4,f14,f16,f17,f18,-⟩,rfl⟩
    rw [hes2] at hh16
    have ad15:∀g,aI .add .none (.int .i64 A13.octets) (.int .i64 (t.length:Int)) g=.ok (.int .i64 (A13.octets+(t.length:Int))) g:=fun g=>FK (by omega) (by omega)
    simp (disch:=omega) only [vvB,Nat.reduceEqDiff,reduceCtorEq,↓reduceIte,LP,LK,LJ,LH,f0,f4,f14,f16,f17,f18,L11b,N11b,aQi,hput11,e12',S13,L15,ad15,S14,e15,Id k15,Bl (v:=iV (A.lastId+1)) rfl (Id k14b),aCU,Th k15,Bl (v:=iV (Dh A i)) rfl (Th k14b),aDI,←hh16,e17,Lp a17,av2 (v:=.ptr pl 0) rfl (Lp a15) (Lp a14b),e18,Id k18]
    exact aU.ret (qT0) ⟨rfl,rfl⟩
   ·intro fr g q;exact q.elim
  by_cases hi:i=0
  ·have eI:=eq_true hi
   have h18':ae9 i=1:=if_pos hi
   rw [h18'] at rest
   simp (disch:=omega) only [vvB,Nat.reduceEqDiff,reduceCtorEq,↓reduceIte,EM,QV,QU,QT,QS,QO,QN,QM,MB,Me,Md,Mc,LZ,LY,LX,LW,LV,LU,LQ,fF,r1l,lt0,gt0,e1,e2,L2,lm,M2,hge0,M4,M15,sb,hgt0,e3,FF,e4',e5,L14,ad14,S5,eT,L5T,cT,bM,aNX,←hp,S6,T6,I6,S7 hi,eI,decide_true,w2l]
   exact rest _ (qK0) (qK0) (qK0) (qK0) (qK0) (qK0) (qK0) (qK1) (qK0)
  ·have eI:=eq_false hi
   have h18':ae9 i=2:=if_neg hi
   rw [h18'] at rest
   rw [E7 hi] at rest w2l
   simp (disch:=omega) only [vvB,Nat.reduceEqDiff,reduceCtorEq,↓reduceIte,EM,QV,QU,QT,QS,QO,QN,QM,MB,Me,Md,Mc,LZ,LY,LX,LW,LV,LU,LQ,fF,r1l,lt0,gt0,e1,e2,L2,lm,M2,hge0,M4,M15,sb,hgt0,e3,FF,e4',e5,L14,ad14,S5,eT,L5T,cT,bM,aNX,←hp,S6,T6,I6,eI,decide_false,w2l]
   exact rest _ (qK0) (qK0) (qK0) (qK0) (qK0) (qK0) (qK0) (qK1) (qK0)
 ·have hacc:({({A14 with boxes:=ny (A.clock+1) [b.id] A14.boxes}:Acc) with ents:=A14.ents++([b.id].map (ql (A.clock+1))++es2)}:Acc)=Zo A b at_ t ks i:=by
   rw [hA14,hA13,hA8,hA5,hm,hes2];rfl
  rw [←hacc];exact a18
 ·have hml:(Zo A b at_ t ks i).mails=A14.mails:=by rw [hA14,hA13,hA8,hA5,hm];rfl
  rw [hml]
  have q15:=(o14.nw dw (Nw.bump 1 h14)).ch (P':=I2) dw c15 (fun j e e'=>(a14.nm j e).2.2.1 e') fun j _ q=>⟨q,fun e'=>(a14.inn j q).2.2.2.1 e'⟩
  have q16:=q15.ch (P':=I2) dw c16 (fun j e e'=>by have:=a14.lt j (a14.foot.2.2.2.1 j e);rw [e'] at this;omega) fun j _ q=>⟨q,fun e'=>by have:=a14.lt j (a14.inn j q).1;rw [e'] at this;omega⟩
  exact(q16.nw dw c17).ch (P':=I2) dw c18 (fun j e e'=>e'.elim (a17.nm j e).2.1 (a17.nm j e).2.2.2) fun j _ q=>⟨q,fun e'=>e'.elim (a17.inn j q).2.2.1 (a17.inn j q).2.2.2.2.2⟩
 ·refine⟨by omega,fun j hj hn=>?_⟩
  have q3:=c03.get j hj fun q=>q
  have q5:=c35.get j (by omega) fun e=>hn (by rw [e];exact a.foot.1)
  have q7:=c57.get j (by omega) fun q=>q
  have q11:=hkeep j (by omega) (fun e=>hn (by rw [e];exact a.foot.2.2.1)) fun e=>by rw [e] at hj;omega
  have q12:=c12.get j (by omega) fun e=>hn (a.foot.2.2.2.1 j e)
  have q13:=c13.get j (by omega) fun e=>hn (by rw [e];exact a.foot.1)
  have q14:=c14.get j (by omega) fun e=>hn (by rw [e];exact a.foot.1)
  have q15:=c15.get j (by omega) fun e=>hn (by rw [e];exact a.foot.2.2.1)
  have q16:=c16.get j (by omega) fun e=>by rw [e] at hj;omega
  have q17:=c17.get j (by omega) fun q=>q
  have q18:=c18.get j (by omega) fun e=>hn (e.elim (fun e=>by rw [e];exact a.foot.2.1) fun e=>a.foot.2.2.2.2 j e)
  rw [q18,q17,q16,q15]
  show h14.get j=_
  rw [q14,q13,q12,q11,q7,q5,q3]
 ·intro j q
  rcases q with(q|q|q)|q
  ·exact .inl q
  ·rw [hI2] at q
   exact q.imp (fun q=>(a.inn j q).1) fun q=>q.1
  ·have:=hv12 j q;exact .inr (by omega)
  ·rcases hv18 j q with e|e
   ·exact .inl (a.foot.2.2.2.2 j e)
   ·exact .inr (by omega)
end Go.Proofs.Im

noncomputable section
namespace Go.Im
open Go Go.Vm Go.Ln
def ae3:Acc:={clock:=1,boxes:= [{id:=1,name:=jS,par:=0,valid:=1,next:=1,mod:=1}],mails:= [],ents:= [],floor:=0,lastBox:=1,lastId:=0,octets:=0}
end Go.Im
namespace Go.Proofs.Im
open Go Go.Proofs Go.Vm Go.Ln Go.Im
set_option maxRecDepth 100000
variable{h h' g:Hp}{F:Pos→Prop}{ps pl ib pc cp i:Pos}{A B:Acc}{cb:Cap}{fb only:Bool}{id:Int}{k n:Nat}
theorem aGy(h:Hp):∃h',XG [] h=.ok (.agg (V.ofList Bo)) h'∧Nw h h':=by
 obtain⟨h1,hh1⟩:∃h1,h1=h.new (.cells (.rw Kw true) Bo):=⟨_,rfl⟩
 have S1:aO 9 (.ptr h.next 0) (.agg (V.ofList Bo)) (h.new (.cells (.rw Kw true) [(.str []),(.str []),(.int .i64 0),(.int .i64 0),(.int .i64 0),(.int .i64 0),(.int .i64 0),(.int .i64 0),(.int .i64 0)]))=.ok V.undef h1:=by rw [hh1];exact iF (V.dO _) rfl rfl
 have k1:Kn h1 h.next (.cells (.rw Kw true) Bo):=by rw [hh1];exact Kn.new _ _
 have B1:∀g,bK [(.str []),(.str []),(.int .i64 0),(.int .i64 0),(.int .i64 0),(.int .i64 0),(.int .i64 0),(.int .i64 0),(.int .i64 0)] [(0,1,(.str [117])),(1,1,(.str [112])),(2,1,(.int .i64 1000)),(3,1,(.int .i64 100)),(4,1,(.int .i64 1048576)),(5,1,(.int .i64 1073741824)),(6,1,(.int .i64 1073741824)),(7,1,(.int .i64 10000)),(8,1,(.int .i64 200))] g=.ok (.agg (V.ofList Bo)) g:=fun g=>rfl
 rw [ayD]
 simp only [vvB,Nat.reduceEqDiff,reduceCtorEq,↓reduceIte,ag6,ajE,ajD,B1,S1]
 exact⟨h1,by simp only [aT,bD,vvB,Nat.reduceEqDiff,reduceCtorEq,↓reduceIte,avT,k1.ldN (n:=9) rfl,bF],by rw [hh1];exact Nw.new _ _⟩
theorem aIM(h:Hp):acN [.int .i64 10000] h=.ok (.tuple (.cons (.ptr h.next 0) (.cons (.int .i64 0) .nil))) (h.new (.cells (.rw tLg true) [iV 10000,.aG,iV 0])):=by
 have B:∀g,bK [(.int .i64 0),.aG,(.int .i64 0)] [(0,1,.int .i64 10000)] g=.ok (.agg (V.ofList [iV 10000,.aG,iV 0])) g:=fun g=>rfl
 rw [azP]
 simp (disch:=omega) only [vvB,Nat.reduceEqDiff,reduceCtorEq,↓reduceIte,al2,aoM,aoL,aoK,B,V.dF]
 simp only [aT,bD,vvB,Nat.reduceEqDiff,reduceCtorEq,↓reduceIte,bF]<;>rfl
abbrev ap0:List Int:= [1000,100,1048576,1073741824,1073741824,10000,200]
theorem aII(h:Hp):∃ps h' F pl ib cb fb,acI [.agg (V.ofList Bo)] h=.ok (.tuple (.cons (.ptr ps 0) (.cons (iV 0) .nil))) h'∧dL h' F ps ae3 pl ib cb fb .aG .aG (fun _=>False)∧Nw h h'∧∀j,F j→h.next.nat≤j.nat:=by
 obtain⟨h1,hh1,c1,k1⟩:=mkW h (.cells (.rw Kw true) Bo)
 have n1:h1.next.nat=h.next.nat+1:=by rw [hh1,aZ]
 have L0:=k1.ld (q:=0) (x:=.str [117]) rfl
 have L1:=k1.ld (q:=1) (x:=.str [112]) rfl
 have L2:=k1.ld (q:=2) (x:=iV 1000) rfl
 have L3:=k1.ld (q:=3) (x:=iV 100) rfl
 have L4:=k1.ld (q:=4) (x:=iV 1048576) rfl
 have L5:=k1.ld (q:=5) (x:=iV 1073741824) rfl
 have L6:=k1.ld (q:=6) (x:=iV 1073741824) rfl
 have L7:=k1.ld (q:=7) (x:=iV 10000) rfl
 have L8:=k1.ld (q:=8) (x:=iV 200) rfl
 have T1:wZ [.str [117]] h1=.ok (.bool true) h1:=by rw [afm (by decide) (by decide)];rfl
 have T2:wZ [.str [112]] h1=.ok (.bool true) h1:=by rw [afm (by decide) (by decide)];rfl
 obtain⟨h2,hh2,c2,k2⟩:=mkW h1 (.cells (.rw fB true) (ap0.map iD).flatten)
 have n2:h2.next.nat=h1.next.nat+1:=by rw [hh2,aZ]
 have B2:bI fB [(.int .i64 0),(.int .i64 0),(.int .i64 0),(.int .i64 0),(.int .i64 0),(.int .i64 0),(.int .i64 0)] 7 [(0,1,iV 1000),(1,1,iV 100),(2,1,iV 1048576),(3,1,iV 1073741824),(4,1,iV 1073741824),(5,1,iV 10000),(6,1,iV 200)] h1=.ok (.slice h1.next 0 7 (.kn 7)) h2:=by rw [hh2];rfl
 have r2:Rws (fun j=>j=h1.next) (flat iD) 1 h2 (.slice h1.next 0 7 (.kn 7)) ap0:=Kn.rws (c:=iD) (l:=ap0) (cp:=.kn 7) (sz:=1) k2 (fun _=>rfl) (fun _ _ _ _ e=>by cases e;exact Nat.le_refl _)
 obtain⟨h3,hh3⟩:∃h3,h3=h2.new (.cells (.rw tLg true) [iV 10000,.aG,iV 0]):=⟨_,rfl⟩
 have eL:=aIM h2
 rw [←hh3] at eL
 have c3:Nw h2 h3:=by rw [hh3];exact Nw.new _ _
 have k3:Kn h3 h2.next (.cells (.rw tLg true) [iV 10000,.aG,iV 0]):=by rw [hh3];exact Kn.new _ _
 have n3:h3.next.nat=h2.next.nat+1:=by rw [hh3,aZ]
 have L7':=(k1.nw c2).ld (q:=7) (x:=iV 10000) rfl
 have N3:=((k1.nw c2).nw c3).ldN (n:=9) rfl
 obtain⟨bx,hbx⟩:∃bx:Bx,bx={id:=1,name:=jS,par:=0,valid:=1,next:=1,mod:=1}:=⟨_,rfl⟩
 have BB:∀g,bK [(.int .i64 0),(.str []),(.int .i64 0),(.int .i64 0),(.int .i64 0),(.int .i64 0)] [(0,1,(.int .i64 1)),(1,1,(.str [73,78,66,79,88])),(3,1,(.int .i64 1)),(4,1,(.int .i64 1)),(5,1,(.int .i64 1))] g=.ok (.agg (V.ofList (fQ bx))) g:=fun g=>by rw [hbx];rfl
 obtain⟨h4,hh4⟩:∃h4,h4=h3.new (.cells (.rw tBx true) (fQ bx)):=⟨_,rfl⟩
 have B4:bI tBx [(.int .i64 0),(.str []),(.int .i64 0),(.int .i64 0),(.int .i64 0),(.int .i64 0)] 1 [(0,6,.agg (V.ofList (fQ bx)))] h3=.ok (.slice h3.next 0 1 (.kn 1)) h4:=by rw [hh4,hbx];rfl
 have c4:Nw h3 h4:=by rw [hh4];exact Nw.new _ _
 have k4:Kn h4 h3.next (.cells (.rw tBx true) (fQ bx)):=by rw [hh4];exact Kn.new _ _
 have n4:h4.next.nat=h3.next.nat+1:=by rw [hh4,aZ]
 obtain⟨h5,hh5⟩:∃h5,h5=h4.new (.cells (.rw tSt true) (Bo++ [iV 0,.slice h3.next 0 1 (.kn 1),.aG,.ptr h2.next 0,iV 1,iV 0,iV 0])):=⟨_,rfl⟩
 have B5:∀g,bK zSt [(0,9,.agg (V.ofList Bo)),(10,1,.slice h3.next 0 1 (.kn 1)),(12,1,.ptr h2.next 0),(13,1,(.int .i64 1))] g=.ok (.agg (V.ofList (Bo++ [iV 0,.slice h3.next 0 1 (.kn 1),.aG,.ptr h2.next 0,iV 1,iV 0,iV 0]))) g:=fun g=>rfl
 have X5:fV tSt (.agg (V.ofList (Bo++ [iV 0,.slice h3.next 0 1 (.kn 1),.aG,.ptr h2.next 0,iV 1,iV 0,iV 0]))) h4=.ok (.ptr h4.next 0) h5:=by rw [hh5];rfl
 have k5:Kn h5 h4.next (.cells (.rw tSt true) (Bo++ [iV 0,.slice h3.next 0 1 (.kn 1),.aG,.ptr h2.next 0,iV 1,iV 0,iV 0])):=by rw [hh5];exact Kn.new _ _
 have c5:Nw h4 h5:=by rw [hh5];exact Nw.new _ _
 have n5:h5.next.nat=h4.next.nat+1:=by rw [hh5,aZ]
 obtain⟨u6,e6⟩:=TQ (n:=1) k5 (q:=9) (by simp)
 obtain⟨h6,hh6⟩:∃h6,h6=h5.put h4.next (some (.cells (.rw tSt true) (stC ae3 h3.next (.kn 1) .aG h2.next))):=⟨_,rfl⟩
 have e6':qE [.ptr h4.next 9,.int .i64 1] h5=.ok u6 h6:=by rw [hh6];exact e6
 have k6:Kn h6 h4.next (.cells (.rw tSt true) (stC ae3 h3.next (.kn 1) .aG h2.next)):=by rw [hh6];exact k5.put _
 have c6:Ch (fun j=>j=h4.next) h5 h6:=by rw [hh6];exact Ch.put _ _ rfl
 have cAll:Nw h h6:=((((c1.trans c2).trans c3).trans c4).trans c5).then c6 fun j hj e=>by rw [e] at hj;omega
 have nn:∀(i j:Pos),i.nat≠j.nat→i≠j:=fun i j hn e=>hn (congrArg Pos.nat e)
 refine⟨h4.next,h6,(fun j=>j=h4.next∨j=h2.next∨j=h3.next),h2.next,h3.next,.kn 1,true,?_,?_,cAll,?_⟩
 ·rw [azJ]
  suffices T:aU Tryz.prog [.tmp 2,.tmp 3] (fun r h'=>r=.tuple (.cons (.ptr h4.next 0) (.cons (iV 0) .nil))∧h'=h6) (acd (T.set (some (.agg (V.ofList Bo))) (Pos.of 0) T.nil) h) by
   obtain⟨r,h',e,rfl,rfl⟩:=T;exact e
  have rl:aY 2 (.slice h1.next 0 7 (.kn 7)) h2=.ok (.int .i64 7) h2:=r2.len h2
  simp (disch:=omega) only [vvB,Nat.reduceEqDiff,reduceCtorEq,↓reduceIte,acd,aov,aou,aot,V.dF,←hh1,L0,L1,L2,L3,L4,L5,L6,L7,L8,T1,T2,B2,rl]
  refine Oc.then (dY (σ:=Unit) (n:=7) (pi:=35) (pn:=34) (pc:=36) [1,33] (fun _=> [.ptr h.next 0,.slice h1.next 0 7 (.kn 7)]) (fun k _ g=>g=h2)
   (A:=fun fr g=>fr.get (Pos.of 1)=some (.ptr h.next 0)∧g=h2) (B:=fun _ _=>False) (s:=())
   (fun fr h _ k e1 e2=>by simp only [vvB,Nat.reduceEqDiff,reduceCtorEq,↓reduceIte,aos,e1,e2]) (fun fr h k _ e1=>by simp (disch:=omega) only [vvB,Nat.reduceEqDiff,reduceCtorEq,↓reduceIte,aop,e1]) (by decide) (by rw [dS];omega) (qK1) (qK1) (by simp only [Fa,vvB,Nat.reduceEqDiff,reduceCtorEq,↓reduceIte,and_self]) rfl ?_ ?_) ?_ ?_
  ·intro k _ fr g hk f35 f34 fa hI
   obtain⟨f1,f33,-⟩:=fa
   subst hI
   obtain⟨x,hx⟩:∃x,ap0[k]?=some x:=⟨_,List.getElem?_eq_getElem (show k<ap0.length from hk)⟩
   obtain⟨i,q,cs,ix,ex,-,-,-,ld,-⟩:=r2.elt hx
   obtain rfl:cs=iD x:=ex
   have ld':=ld g rfl 0 (iV x) rfl
   rw [Nat.add_zero] at ld'
   have hb:1≤x∧x≤2147483647:=by
    have:∀x∈ap0,1≤x∧x≤2147483647:=by decide
    exact this x (List.mem_of_getElem? hx)
   have h1x:(x<1)=False:=eq_false (by omega)
   have h2x:(x>2147483647)=False:=eq_false (by omega)
   simp (disch:=omega) only [vvB,Nat.reduceEqDiff,reduceCtorEq,↓reduceIte,aor,aoq,f33,f35,ix,ld',h1x,h2x]
   exact⟨qK2 f35,qK2 f34,(),by simp only [Fa,vvB,Nat.reduceEqDiff,reduceCtorEq,↓reduceIte,f1,f33,and_self],rfl⟩
  ·intro _ fr g fa hI
   exact⟨fa.1,hI⟩
  ·rintro fr g ⟨f1,rfl⟩
   simp (disch:=omega) only [vvB,Nat.reduceEqDiff,reduceCtorEq,↓reduceIte,aoo,ajh,ajg,ajf,f1,L7',eL,N3,BB,B4,B5,X5,e6']
   exact aU.ret (qT0) ⟨rfl,rfl⟩
  ·intro fr g q;exact q.elim
 ·have hb:ae3.boxes= [bx]:=by rw [hbx];rfl
  refine⟨k6,(((k3.nw c4).nw c5).ch c6 (nn _ _ (by omega))),?_,?_,⟨[],.nil,fun _ q=>(by cases q),.inl ⟨rfl,rfl⟩⟩,dA.nil _ _ _ _ _ _,⟨nn _ _ (by omega),nn _ _ (by omega),nn _ _ (by omega)⟩,fun j e=>(by cases e),fun j e=>(by cases e),fun j e=>e.elim,⟨.inl rfl,.inr (.inl rfl),.inr (.inr rfl),fun j e=>(by cases e),fun j e=>(by cases e)⟩,?_,fun _=>rfl⟩
  ·rw [hb]
   have:=(k4.nw c5).ch c6 (nn _ _ (by omega))
   simpa using this
  ·intro i o n c e;cases e;exact Nat.le_refl _
  ·intro j q
   have n6:=c6.next
   rcases q with rfl|rfl|rfl<;>omega
 ·intro j q
  rcases q with rfl|rfl|rfl<;>omega
end Go.Proofs.Im
