/- Part of the value machine, or of a walk by it: lemmas that the claim's last text uses. No conditions. -/
import Derived.Test.YtpgppmioigacoaaGreatDoorSlAU
import Derived.Test.YtpgppmioigacoaaGreatDoorSlAO
set_option linter.unusedVariables false
set_option linter.unusedSimpArgs false
set_option linter.unnecessarySimpa false
noncomputable section
namespace Go.Vm
variable{h:Hp}
theorem ldL{i:Pos}{wr:Wr}{l r:List V}{n:Nat}(hg:h.get i=some (.cells wr (l++r)))(hn:l.length=n):bW n (.ptr i 0) h=.ok (.agg (V.ofList l)) h:=by
 show dQ h i (fun _ cs=>match gB n (fG 0 cs) with|some l=>R.ok (V.agg (V.ofList l)) h|none=>.bad)=_
 rw [dP (wr:=wr) (all:=l++r) (by rw [hg];rfl)]
 rw [ve (cs:=l) (fun f hf=>by rw [Nat.zero_add,List.getElem?_append_left (by omega)]) hn]
theorem arC:∀{l m:List V},l.length=m.length→Sz l m=some l
 | [],[],_=>rfl
 | [],_::_,h=>by cases h
 |_::_,[],h=>by cases h
 |a::l,b::m,h=>by
  show Option.casesOn (motive:=fun _=>Option (List V)) (Sz l m) none (fun r=>some (a::r))=_
  rw [arC (by simpa using h)]
theorem stL{i:Pos}{t:TypeId}{f:Bool}{l m:List V}{n:Nat}(hg:h.get i=some (.cells (.rw t f) m))(hm:l.length=m.length)(hn:l.length=n):aO n (.ptr i 0) (.agg (V.ofList l)) h=.ok V.undef (h.put i (some (.cells (.rw t f) l))):=by
 have hc:V.cells (.agg (V.ofList l))=l:=V.dF l
 rw [qm hg rfl (by rw [hc,hn,Nat.beq_refl]),hc]
 show(match Sz l m with|some cs'=>R.ok V.undef (h.put i (some (.cells (.rw t f) cs')))|none=>.bad)=_
 rw [arC hm]
end Go.Vm
namespace Go.Proofs.Im
open Go Go.Proofs Go.Vm Go.Ln
set_option maxRecDepth 100000
theorem avT(x:V)(h:Hp):vT Tryz.prog Kw x h=bW 9 x h:=by kernel_rfl
theorem aFq{h:Hp}{i:Pos}{wr:Wr}{l r:List V}(hg:h.get i=some (.cells wr (l++r)))(hl:l.length=9)(hi:i.nat<h.next.nat):∃h',atU [.ptr i 0] h=.ok (.agg (V.ofList l)) h'∧Ch (fun _=>False) h h':=by
 obtain⟨h1,hh1⟩:∃h1,h1=h.new (.cells (.rw Kw true) [(.str []),(.str []),(.int .i64 0),(.int .i64 0),(.int .i64 0),(.int .i64 0),(.int .i64 0),(.int .i64 0),(.int .i64 0)]):=⟨_,rfl⟩
 have c1:Ch (fun _=>False) h h1:=by rw [hh1];exact Ch.new _ _ _
 have g1:h1.get h.next=some (.cells (.rw Kw true) [(.str []),(.str []),(.int .i64 0),(.int .i64 0),(.int .i64 0),(.int .i64 0),(.int .i64 0),(.int .i64 0),(.int .i64 0)]):=by rw [hh1];exact dD _ _
 have L1:=ldL ((c1.get i hi fun q=>q).trans hg) hl
 have S1:=stL (l:=l) g1 hl hl
 have K1:bW 9 (.ptr h.next 0) (h1.put h.next (some (.cells (.rw Kw true) l)))=.ok (.agg (V.ofList l)) (h1.put h.next (some (.cells (.rw Kw true) l))):=ldL (r:= []) (by rw [dJ,List.append_nil]) hl
 rw [aI6]
 simp (disch:=omega) only [vvB,Nat.reduceEqDiff,reduceCtorEq,↓reduceIte,aDW,aB5,aB4,aB3,ahH,←hh1,fF,L1,S1]
 exact⟨h1.put h.next (some (.cells (.rw Kw true) l)),by simp only [aT,bD,vvB,Nat.reduceEqDiff,reduceCtorEq,↓reduceIte,avT,K1,bF],by rw [hh1];exact TW _ _ _⟩
end Go.Proofs.Im
namespace Go.Im
open Go Go.Vm Go.Ln
abbrev Bo:List V:= [.str [117],.str [112],iV 1000,iV 100,iV 1048576,iV 1073741824,iV 1073741824,iV 10000,iV 200]
end Go.Im
namespace Go.Proofs.Im
open Go Go.Proofs Go.Vm Go.Ln Go.Im
set_option maxRecDepth 100000
variable{bb:Nat}{h h' g h0:Hp}{P F I J Z:Pos→Prop}{ps pl ib ir pc im i:Pos}{cb:Cap}{fb uid only u last bare part:Bool}{v vm vl vv vw:V}{st st2:Sn}{L an:List V}{s s2 nm tx:List Nat}{w:Wds}{f n:Nat}
theorem aDU(q:Rq bb h0 Z h pc im ps ir uid w s st L vw P F J pl ib cb fb vm vl vv I)(hw2:w.len=2)(hwt:kK w= [[117],[112]])(hwl:xH w=false):
  ∃h',atW [.ptr pc 0,.ptr ir 0] h=.ok (anV 0 [] false false false) h'∧zF bb h0 Z vw P h' pc im ps ir uid w s {st with inn:=true}:=by
 obtain⟨h1,hh1,c1,k1⟩:=mkW h (.cells (.rw tA true) zAn)
 have q1:=q.nw c1
 have na1:¬OfB ir 5 L h.next:=fun o=>by have:=(o.from q.bd _).2;omega
 have nf1:¬Ft F J pc im h.next:=fun o=>by have:=q.wd.lt _ o;omega
 obtain⟨r2,h2,e2,c2,hN⟩:=akx (n:=2) q1.bd q1.l3 q1.ws (by omega)
 have e2':XJ [.ptr ir 0,.int .i64 2] h1=.ok r2 h2:=e2
 obtain⟨v,rfl,ov,hid⟩:∃v,r2=.tuple (.cons v (.cons (.bool true) .nil))∧Ow 0 h2 9 1 v 2 ([[117],[112]].map V.str)∧∀j,aX v=some j→h1.next.nat≤j.nat:=by
  rcases hN with⟨hL,-⟩|⟨-,v,rfl,ov,hid⟩
  ·rw [hwl] at hL;cases hL
  ·rw [hw2,hwt] at ov
   exact⟨v,by rw [decide_eq_true hw2],ov,hid⟩
 obtain⟨iv,fv,hv,kv,hiv⟩:∃iv fv,v=.slice iv 0 2 (.un 1)∧Kn h2 iv (.cells (.rw 9 fv) [.str [117],.str [112]])∧h1.next.nat≤iv.nat:=by
  rcases ov.is with⟨h0,_⟩|⟨i,e,hb,hi,f,hg⟩
  ·omega
  ·exact⟨i,f,e,⟨hg,hi⟩,hid i (by rw [e];rfl)⟩
 have a0':∀g,bU 1 v (.int .i64 0) g=.ok (.ptr iv 0) g:=fun g=>by rw [hv];rfl
 have a1':∀g,bU 1 v (.int .i64 1) g=.ok (.ptr iv 1) g:=fun g=>by rw [hv];rfl
 have c2':Nw h1 h2:=c2
 have q2:=q1.nw c2'
 have R1:=q2.kr.ld q2.l1
 have hst:=q2.wd.acc.st
 obtain⟨h3,e3,c3⟩:=aFq (l:=Bo) (r:=(stC st.acc ib cb vm pl).drop 9) hst.1 rfl hst.2
 have c3':Nw h2 h3:=c3
 obtain⟨h4,hh4⟩:∃h4,h4=h3.new (.cells (.rw Kw true) Bo):=⟨_,rfl⟩
 have S4:aO 9 (.ptr h3.next 0) (.agg (V.ofList Bo)) (h3.new (.cells (.rw Kw true) [(.str []),(.str []),(.int .i64 0),(.int .i64 0),(.int .i64 0),(.int .i64 0),(.int .i64 0),(.int .i64 0),(.int .i64 0)]))=.ok V.undef h4:=by rw [hh4];exact iF (V.dO _) rfl rfl
 have c4:Nw h3 h4:=by rw [hh4];exact Nw.new _ _
 have k4:Kn h4 h3.next (.cells (.rw Kw true) Bo):=by rw [hh4];exact Kn.new _ _
 have c24:=c3'.trans c4
 have U0:=k4.ld (q:=0) (x:=.str [117]) rfl
 have U1:=k4.ld (q:=1) (x:=.str [112]) rfl
 have b0':=(kv.nw c24).ld (q:=0) (x:=.str [117]) rfl
 have b1':=(kv.nw c24).ld (q:=1) (x:=.str [112]) rfl
 have q4:=q2.nw c24
 have ka4:=(k1.nw c2').nw c24
 obtain⟨st5,hst5⟩:∃st5,st5=({st with inn:=true}:Sn):=⟨_,rfl⟩
 obtain⟨h5,hh5⟩:∃h5,h5=h4.put pc (some (.cells (.rw tCn true) [.bool st5.inn,vv,.bool st5.only,iV st5.cnt,.map im])):=⟨_,rfl⟩
 have S5:aO 1 (.ptr pc 0) (.bool true) h4=.ok V.undef h5:=by rw [hh5,hst5];exact q4.wd.con.st (q:=0) (y:=.bool true) ⟨rfl,rfl⟩ (by simp)
 have w5:World h5 pc im ps st5 F J pl ib cb fb vm vl vv I:=by
  rw [hh5];exact q4.wd.afg (by rw [hst5]) (by rw [hst5];exact q4.wd.view) fun j q=>⟨fun f=>(q4.wd.fj j f).1 q,q4.wd.jn j q⟩
 have c5:Ch (fun j=>j=pc) h4 h5:=by rw [hh5];exact Ch.put _ _ rfl
 have q5:=q4.turn w5 c5 (fun j e=>.inr (.inr (.inl e))) fun j f=>.inl f
 have hpc:=q.wd.con.2
 have k5:=ka4.ch c5 fun e=>by rw [←e] at hpc;omega
 obtain⟨h6,hh6⟩:∃h6,h6=h5.put h.next (some (.cells (.rw tA true) (anL 0 [] false false false))):=⟨_,rfl⟩
 have S6:aO 5 (.ptr h.next 0) (anV 0 [] false false false) h5=.ok V.undef h6:=by rw [hh6];exact k5.stN rfl rfl
 have k6:Kn h6 h.next (.cells (.rw tA true) (anL 0 [] false false false)):=by rw [hh6];exact k5.put _
 have c6:Ch (fun j=>j=h.next) h5 h6:=by rw [hh6];exact Ch.put _ _ rfl
 have q6:=q5.atG c6 na1 nf1 q.chz.next
 refine⟨h6,?_,by have:=q6.mk';rw [hst5] at this;exact this⟩
 rw [aJb]
 simp (disch:=omega) only [vvB,Nat.reduceEqDiff,reduceCtorEq,↓reduceIte,aD1,aCn,aCm,aCl,aCk,aCj,aCi,aCh,←hh1,e2',R1,e3,S4,a0',a1',b0',b1',U0,U1,S5,aQf,S6,eq_self]
 simp only [aT,bD,vvB,Nat.reduceEqDiff,reduceCtorEq,↓reduceIte,qR,k6.ldN (n:=5) rfl,bF]
theorem mG.cmd{g:Ln.Got}{x y:Wd}{kk:Int}(hk:g.kind=1)(hx0:g.words.get? 0=some x)(hkx:x.kind=1)(hx1:g.words.get? 1=some y)(hky:y.kind=1)
  (hxl:x.text.length≤1000000∧∀c∈x.text,c<256) (hyl:y.text.length≤1000000∧∀c∈y.text,c<256) (hcnt:0≤st.cnt∧st.cnt<1000000) (hrun:Dw pc im ps (g.words.drop 2) (foldM y.text) {st with cnt:=st.cnt+1} (anL kk tx last bare part) s2 st2)
  (hkk:kk=0∨kk=1) (htx:tx.length≤1000∧∀c∈tx,c<256) (hs2:s2.length≤100000∧∀c∈s2,c<256) (hu:kk=0→bare=false→st2.vw=none) (ht:(vI kk x.text tx s2 bare st2).length≤2000000):
  mG pc im ps g st (vI kk x.text tx s2 bare st2) (if kk=1 then true else !last) (KI kk bare st2):=
 ⟨ht,fun h F J pl ib cb fb vm vl vv I P vw W tw hP=>aPW W tw hP hk hx0 hkx hx1 hky hxl hyl hcnt hrun hkk htx hs2 hu⟩
theorem Dw.of{w:Wds}(hnm:nm≠aCy)(hf:H8 nm abd=some (f,n,u))(hm:aHK n st)(hc:∀(bb:Nat) (ir:Pos) (vw:V) (P:Pos→Prop),Cmd f bb pc im ps ir false w [] st vw P an s2 st2)(hl:an.length=5):Dw pc im ps w nm st an s2 st2:=
 fun bb h0 Z h ir L vw P F J pl ib cb fb vm vl vv I q=>by
  obtain⟨h',e,r⟩:=run_go q hnm hf hm (hc bb ir vw P) hl
  exact⟨h',vw,P,w,false,e,r⟩
end Go.Proofs.Im

noncomputable section
namespace Go.Im
open Go Go.Vm Go.Ln
def Sm(n:Nat)(s:List Nat):Prop:=s.length≤n∧∀c∈s,c<256
theorem Sm.nil(n:Nat):Sm n []:=⟨Nat.zero_le _,fun _ h=>by cases h⟩
theorem Sm.mono{n m:Nat}{s:List Nat}(h:Sm n s)(hm:n≤m):Sm m s:=⟨Nat.le_trans h.1 hm,h.2⟩
theorem Sm.take{n:Nat}{s:List Nat}(h:Sm n s)(k:Nat):Sm n (s.take k):=⟨by rw [List.length_take];have:=h.1;omega,fun c hc=>h.2 c (List.mem_of_mem_take hc)⟩
theorem Sm.drop{n:Nat}{s:List Nat}(h:Sm n s)(k:Nat):Sm n (s.drop k):=⟨by rw [List.length_drop];have:=h.1;omega,fun c hc=>h.2 c (List.mem_of_mem_drop hc)⟩
theorem Sm.app{n m:Nat}{s t:List Nat}(h:Sm n s)(h2:Sm m t):Sm (n+m) (s++t):=⟨by rw [List.length_append];have:=h.1;have:=h2.1;omega,fun c hc=>(List.mem_append.1 hc).elim (h.2 c) (h2.2 c)⟩
theorem auX{h:Hp}{s:List Nat}{a b:Nat}{k k':IntKind}(h1:a≤b)(h2:b≤s.length):dZ (.str s) (some (.int k (a:Int))) (some (.int k' (b:Int))) h=.ok (.str ((s.drop a).take (b - a))) h:=by
 show(match Nat.ble b s.length,Nat.ble a b with|true,true=>R.ok (V.str (takeN (b - a) (aa8 a s))) h|_,_=>.bad)=_
 rw [Nat.ble_eq_true_of_le h1,Nat.ble_eq_true_of_le h2,aaD,aa7]
theorem aHF{n sz:Nat}{p:Pos}{o:Nat}{k:IntKind}{c:Nat}{h:Hp}(hc:c<n):ahJ n sz (.ptr p o) (.int k (c:Int)) h=.ok (.ptr p (o+c*sz)) h:=by
 show(match Nat.blt c n with|true=>eu (o+c*sz) fun q=>R.ok (V.ptr p q) h|false=>.bad)=_
 rw [show Nat.blt c n=true by rw [Nat.blt_eq];exact hc]
 simp only [dB]
def Ih:List V:=(List.range 256).map fun i=>.bool (Nat.beq i 9||Nat.beq i 32)
theorem aFA{c:Nat}(hc:c<256):Ih[c]?=some (.bool (Nat.beq c 9||Nat.beq c 32)):=by
 unfold Ih
 rw [List.getElem?_map,List.getElem?_range hc];rfl
end Go.Im
namespace Go.Proofs.Im
open Go Go.Proofs Go.Vm Go.Ln Go.Im
set_option maxRecDepth 100000
variable{h h' g:Hp}{p:Pos}{s:List Nat}{n c:Nat}{w:Wr}
theorem axz(k:Kn h p (.cells w Ih))(hc:c<256):rP [.ptr p 0,.int .u8 (c:Int)] h=.ok (.bool (Nat.beq c 9||Nat.beq c 32)) h:=by
 have e1:∀g,ahJ 256 1 (.ptr p 0) (.int .u8 (c:Int)) g=.ok (.ptr p c) g:=fun g=>by rw [aHF hc,Nat.zero_add,Nat.mul_one]
 have e2:=k.ld (aFA hc)
 rw [aen]
 simp only [vvB,Nat.reduceEqDiff,reduceCtorEq,↓reduceIte,F9,OT,OQ,e1,e2]
 simp only [aT,bD,vvB,Nat.reduceEqDiff,reduceCtorEq,↓reduceIte,bF]
theorem aDQ(k:Kn h p (.cells w Ih))(hs:Sm n s)(hn:n≤1000000):∃t,rY [.str s,.ptr p 0] h=.ok (.str t) h∧Sm n t:=by
 rw [YS]
 suffices T:aU Tryz.prog [.tmp 4] (fun r h'=>h'=h∧∃t,r=.str t∧Sm n t) (rW (T.set (some (.ptr p 0)) (Pos.of 1) (T.set (some (.str s)) (Pos.of 0) T.nil)) h) by
  obtain⟨r,h',e,rfl,t,rfl,q⟩:=T;exact⟨t,e,q⟩
 simp (disch:=omega) only [vvB,Nat.reduceEqDiff,reduceCtorEq,↓reduceIte,rW,GL]
 refine Oc.then (dR (n:=s.length) (fun m fr g=>∃t:List Nat,g=h∧t.length=m∧Sm n t∧fr.get (Pos.of 0)=some (.str t)∧fr.get (Pos.of 1)=some (.ptr p 0)) (A:=fun fr g=>∃t,g=h∧Sm n t∧fr.get (Pos.of 0)=some (.str t)) (B:=fun _ _=>False) (by rw [dS];have:=hs.1;omega) ⟨s,rfl,rfl,hs,qK0,qK0⟩ ?_) ?_ ?_
 ·rintro m fr g ⟨t,rfl,ht,hq,f0,f1⟩
  have hl:=hq.1
  by_cases hz:t.length=0
  ·have e0:((t.length:Int)>0)=False:=eq_false (by omega)
   simp (disch:=omega) only [vvB,Nat.reduceEqDiff,reduceCtorEq,↓reduceIte,oZ,oU,f0,e0]
   exact⟨rfl,t,rfl,hq,qK2 f0⟩
  ·have e0:((t.length:Int)>0)=True:=eq_true (by omega)
   obtain⟨c,hc⟩:∃c,t[t.length - 1]?=some c:=⟨_,List.getElem?_eq_getElem (by omega)⟩
   have c256:=hq.2 c (List.mem_of_getElem? hc)
   have ec:((t.length:Int) - 1)=((t.length - 1:Nat):Int):=by omega
   have ex:dG (.str t) (.int .i64 ((t.length - 1:Nat):Int)) g=.ok (.int .u8 (c:Int)) g:=jl hc
   have eh:=axz k c256
   have es:∀g,dZ (.str t) none (some (.int .i64 ((t.length - 1:Nat):Int))) g=.ok (.str (t.take (t.length - 1))) g:=fun g=>vZ (by omega)
   cases hb:(Nat.beq c 9||Nat.beq c 32) with
   |true=>
    rw [hb] at eh
    simp (disch:=omega) only [vvB,Nat.reduceEqDiff,reduceCtorEq,↓reduceIte,oZ,oU,wG,GK,f0,f1,e0,ec,ex,eh,es]
    exact⟨m - 1,by omega,t.take (t.length - 1),rfl,by rw [List.length_take];omega,hq.take _,qK0,qK2 f1⟩
   |false=>
    rw [hb] at eh
    simp (disch:=omega) only [vvB,Nat.reduceEqDiff,reduceCtorEq,↓reduceIte,oZ,oU,wG,f0,f1,e0,ec,ex,eh]
    exact⟨rfl,t,rfl,hq,qK2 f0⟩
 ·rintro fr g ⟨t,rfl,hq,f0⟩
  simp only [vvB,Nat.reduceEqDiff,reduceCtorEq,↓reduceIte,GI,f0]
  exact aU.ret (qT0) ⟨rfl,t,rfl,hq⟩
 ·intro fr g q;exact q.elim
theorem aDR(k:Kn h p (.cells w Ih))(hs:Sm n s)(hn:n≤1000000):∃t,uU [.str s,.ptr p 0] h=.ok (.str t) h∧Sm n t:=by
 rw [aao]
 suffices T:aU Tryz.prog [.tmp 4] (fun r h'=>h'=h∧∃t,r=.str t∧Sm n t) (uP (T.set (some (.ptr p 0)) (Pos.of 1) (T.set (some (.str s)) (Pos.of 0) T.nil)) h) by
  obtain⟨r,h',e,rfl,t,rfl,q⟩:=T;exact⟨t,e,q⟩
 simp (disch:=omega) only [vvB,Nat.reduceEqDiff,reduceCtorEq,↓reduceIte,uP,IG]
 refine Oc.then (dR (n:=s.length) (fun m fr g=>∃t:List Nat,g=h∧t.length=m∧Sm n t∧fr.get (Pos.of 0)=some (.str t)∧fr.get (Pos.of 1)=some (.ptr p 0)) (A:=fun fr g=>∃t,g=h∧Sm n t∧fr.get (Pos.of 0)=some (.str t)) (B:=fun _ _=>False) (by rw [dS];have:=hs.1;omega) ⟨s,rfl,rfl,hs,qK0,qK0⟩ ?_) ?_ ?_
 ·rintro m fr g ⟨t,rfl,ht,hq,f0,f1⟩
  have hl:=hq.1
  by_cases hz:t.length=0
  ·have e0:((t.length:Int)>0)=False:=eq_false (by omega)
   simp (disch:=omega) only [vvB,Nat.reduceEqDiff,reduceCtorEq,↓reduceIte,qA,qw,f0,e0]
   exact⟨rfl,t,rfl,hq,qK2 f0⟩
  ·have e0:((t.length:Int)>0)=True:=eq_true (by omega)
   obtain⟨c,hc⟩:∃c,t[0]?=some c:=⟨_,List.getElem?_eq_getElem (by omega)⟩
   have c256:=hq.2 c (List.mem_of_getElem? hc)
   have ex:dG (.str t) (.int .i64 0) g=.ok (.int .u8 (c:Int)) g:=jl (m:=0) hc
   have eh:=axz k c256
   have es:∀g,dZ (.str t) (some (.int .i64 1)) none g=.ok (.str (t.drop 1)) g:=fun g=>wo (m:=1) (by omega)
   cases hb:(Nat.beq c 9||Nat.beq c 32) with
   |true=>
    rw [hb] at eh
    simp (disch:=omega) only [vvB,Nat.reduceEqDiff,reduceCtorEq,↓reduceIte,qA,qw,yg,IE,f0,f1,e0,ex,eh,es]
    exact⟨m - 1,by omega,t.drop 1,rfl,by rw [List.length_drop];omega,hq.drop _,qK0,qK2 f1⟩
   |false=>
    rw [hb] at eh
    simp (disch:=omega) only [vvB,Nat.reduceEqDiff,reduceCtorEq,↓reduceIte,qA,qw,yg,f0,f1,e0,ex,eh]
    exact⟨rfl,t,rfl,hq,qK2 f0⟩
 ·rintro fr g ⟨t,rfl,hq,f0⟩
  simp only [vvB,Nat.reduceEqDiff,reduceCtorEq,↓reduceIte,IC,f0]
  exact aU.ret (qT0) ⟨rfl,t,rfl,hq⟩
 ·intro fr g q;exact q.elim
theorem aGv(hs:Sm n s)(hn:n≤1000000):∃t h',XE [.str s,.str [32,9]] h=.ok (.str t) h'∧Sm n t∧Nw h h':=by
 rw [ayB]
 by_cases hz:s= []
 ·subst hz
  refine⟨[],h,?_,hs,Nw.refl _⟩
  simp (disch:=omega) only [vvB,Nat.reduceEqDiff,reduceCtorEq,↓reduceIte,Xv,Yv,Yu,ajx,decide_true]
  simp only [aT,bD,vvB,Nat.reduceEqDiff,reduceCtorEq,↓reduceIte,bF]
 ·obtain⟨h1,hh1⟩:∃h1,h1=h.new (.cells (.rw 406 true) Ih):=⟨_,rfl⟩
  have k1:Kn h1 h.next (.cells (.rw 406 true) Ih):=by rw [hh1];exact Kn.new _ _
  have em:Ef [.str [32,9]] h=.ok (.tuple (.cons Ik.afj (.cons (.bool true) .nil))) h:=AX (ah0 _ _) h
  obtain⟨t,e1,q1⟩:=aDQ k1 hs hn
  obtain⟨u,e2,q2⟩:=aDR k1 q1 hn
  refine⟨u,h1,?_,q2,by rw [hh1];exact Nw.new _ _⟩
  have ez:(s= [])=False:=eq_false hz
  have eL:(((([32,9]:List Nat).length:Nat):Int)=1)=False:=eq_false (by simp)
  have S1:∀z:List V,z.length=256→aO 256 (.ptr h.next 0) Ik.afj (h.new (.cells (.rw 406 true) z))=.ok V.undef h1:=fun z hz=>by
   rw [hh1]
   have:Ik.afj=.agg (V.ofList Ih):=rfl
   rw [this,iF (V.dO _) (by rw [V.dF];unfold Ih;rw [List.length_map,List.length_range]) hz,V.dF]
  simp only [vvB,Nat.reduceEqDiff,reduceCtorEq,↓reduceIte,Xv,Yv,Yu,ajw,ajv,ez,eL,decide_false,em]
  rw [S1 _ (by rfl)]
  simp only [vvB,Nat.reduceEqDiff,reduceCtorEq,↓reduceIte,aju,ajt,e1,e2]
  simp only [aT,bD,vvB,Nat.reduceEqDiff,reduceCtorEq,↓reduceIte,bF]
end Go.Proofs.Im

noncomputable section
namespace Go.Im
open Go Go.Vm Go.Ln
theorem ap6(c:Nat):∀s:List Nat,jY c s<0∨∃k:Nat,jY c s=(k:Int)∧k<s.length
 | []=>.inl (show(-1:Int)<0 by decide)
 |d::l=>by
  unfold jY
  cases Nat.beq d c with
  |true=>exact .inr ⟨0,rfl,by simp⟩
  |false=>
   rcases ap6 c l with h|⟨k,h,hk⟩
   ·left
    cases hq:jY c l with
    |ofNat n=>rw [hq] at h;exact absurd h (by simp)
    |negSucc n=>exact(by decide:(-1:Int)<0)
   ·right
    refine⟨k+1,?_,by simp;omega⟩
    rw [h];rfl
def qQ(x:List Nat×List Nat):List V:= [.str x.1,.str x.2]
end Go.Im
namespace Go.Proofs.Im
open Go Go.Proofs Go.Vm Go.Ln Go.Im
set_option maxRecDepth 100000
variable{h h' g:Hp}{s:List Nat}{n c:Nat}
theorem aqF{s:List Nat}{c:Nat}(hc:c<256):qL [.str s,.int .u8 (c:Int)] h=.ok (.int .i64 (jY c s)) h:=by
 have e:qC [.str s,.int .u8 (c:Int)] h=.ok (.int .i64 (jY c s)) h:=by
  show(match Nat.blt c 256 with|true=>iw .i64 (jY c s) h|false=>.bad)=_
  rw [show Nat.blt c 256=true by rw [Nat.blt_eq];exact hc]
  exact fP _ _ _
 rw [RZ]
 simp only [vvB,Nat.reduceEqDiff,reduceCtorEq,↓reduceIte,Dy,F8,F7,e]
 simp only [aT,bD,vvB,Nat.reduceEqDiff,reduceCtorEq,↓reduceIte,bF]
theorem aDM(s:List Nat):∃i:Int,TD [.str s,.str [58]] h=.ok (.int .i64 i) h∧(i<0∨∃k:Nat,i=(k:Int)∧k<s.length):=by
 rw [atj]
 have eL:((([58]:List Nat).length:Nat):Int)=1:=rfl
 have ex:dG (.str [58]) (.int .i64 0) h=.ok (.int .u8 ((58:Nat):Int)) h:=jl (m:=0) rfl
 by_cases hz:([58]:List Nat)=s
 ·refine⟨0,?_,.inr ⟨0,rfl,by rw [←hz];decide⟩⟩
  have ez:(([58]:List Nat)=s)=True:=eq_true hz
  simp (disch:=omega) only [vvB,Nat.reduceEqDiff,reduceCtorEq,↓reduceIte,SY,U9,U8,U7,afT,eL,ez,decide_true]
  simp only [aT,bD,vvB,Nat.reduceEqDiff,reduceCtorEq,↓reduceIte,bF]
 ·refine⟨jY 58 s,?_,ap6 58 s⟩
  have ez:(([58]:List Nat)=s)=False:=eq_false hz
  have ei:=aqF (h:=h) (s:=s) (c:=58) (by decide)
  simp (disch:=omega) only [vvB,Nat.reduceEqDiff,reduceCtorEq,↓reduceIte,SY,U9,U8,U7,afS,afR,eL,ez,decide_false,ex,ei]
  simp only [aT,bD,vvB,Nat.reduceEqDiff,reduceCtorEq,↓reduceIte,bF]
theorem aIJ(hs:Sm n s)(hn:n≤1000000):∃a b f,acJ [.str s,.str [58]] h=.ok (.tuple (.cons (.str a) (.cons (.str b) (.cons (.bool f) .nil)))) h∧Sm n a∧Sm n b:=by
 have key:∃a b f,acH [.str s,.str [58]] h=.ok (.tuple (.cons (.str a) (.cons (.str b) (.cons (.bool f) .nil)))) h∧Sm n a∧Sm n b:=by
  obtain⟨i,ei,hi⟩:=aDM (h:=h) s
  rw [azH]
  have hl:=hs.1
  rcases hi with hi|⟨k,rfl,hk⟩
  ·have e0:(i≥0)=False:=eq_false (by omega)
   refine⟨s,[],false,?_,hs,Sm.nil _⟩
   simp (disch:=omega) only [vvB,Nat.reduceEqDiff,reduceCtorEq,↓reduceIte,ab8,abJ,abI,abH,aoj,ei,e0,decide_false]
   simp only [aT,bD,vvB,Nat.reduceEqDiff,reduceCtorEq,↓reduceIte,bF]<;>rfl
  ·have e0:((k:Int)≥0)=True:=eq_true (by omega)
   have eL:((([58]:List Nat).length:Nat):Int)=1:=rfl
   have ek:(k:Int)+1=((k+1:Nat):Int):=by omega
   have s1:∀g,dZ (.str s) none (some (.int .i64 (k:Int))) g=.ok (.str (s.take k)) g:=fun g=>vZ (by omega)
   have s2:∀g,dZ (.str s) (some (.int .i64 ((k+1:Nat):Int))) none g=.ok (.str (s.drop (k+1))) g:=fun g=>wo (by omega)
   refine⟨s.take k,s.drop (k+1),true,?_,hs.take _,hs.drop _⟩
   simp (disch:=omega) only [vvB,Nat.reduceEqDiff,reduceCtorEq,↓reduceIte,ab8,abJ,abI,abH,aok,ei,e0,eL,ek,s1,s2,decide_true]
   simp only [aT,bD,vvB,Nat.reduceEqDiff,reduceCtorEq,↓reduceIte,bF]<;>rfl
 obtain⟨a,b,f,e,ha,hb⟩:=key
 refine⟨a,b,f,?_,ha,hb⟩
 rw [azL]
 simp (disch:=omega) only [vvB,Nat.reduceEqDiff,reduceCtorEq,↓reduceIte,alZ,aoz,aoy,e]
 simp only [aT,bD,vvB,Nat.reduceEqDiff,reduceCtorEq,↓reduceIte,bF]<;>rfl
theorem aAO(x:V)(h:Hp):vT Tryz.prog tFl x h=bW 2 x h:=by kernel_rfl
theorem aJd(hs:Sm n s)(hn:n≤1000000):∃x f h',Ws [.str s] h=.ok (.tuple (.cons (.agg (V.ofList (qQ x))) (.cons (.bool f) .nil))) h'∧Sm n x.1∧Sm n x.2∧Nw h h':=by
 obtain⟨h1,hh1,c1,k1⟩:=mkW h (.cells (.rw tFl true) [(.str []),(.str [])])
 obtain⟨a,b,f,e1,ha,hb⟩:=aIJ (h:=h1) hs hn
 obtain⟨t,h2,e2,ht,c2⟩:=aGv (h:=h1) hb hn
 obtain⟨h3,hh3⟩:∃h3,h3=h2.put h.next (some (.cells (.rw tFl true) (qQ (a,t)))):=⟨_,rfl⟩
 have k2:=k1.nw c2
 have S3:aO 2 (.ptr h.next 0) (.agg (V.ofList (qQ (a,t)))) h2=.ok V.undef h3:=by rw [hh3];exact k2.stN rfl rfl
 have S3':aO 2 (.ptr h.next 0) (.agg (.cons (.str a) (.cons (.str t) .nil))) h2=.ok V.undef h3:=S3
 have k3:Kn h3 h.next (.cells (.rw tFl true) (qQ (a,t))):=by rw [hh3];exact k2.put _
 have c3:Nw h h3:=(c1.trans c2).then (by rw [hh3];exact Ch.put (S:=fun j=>j=h.next) _ _ rfl) fun j hj q=>by rw [q] at hj;omega
 have BB:∀g,bK [(.str []),(.str [])] [(0,1,.str a),(1,1,.str t)] g=.ok (.agg (V.ofList (qQ (a,t)))) g:=fun g=>rfl
 have hal:=ha.1
 suffices T:aU Tryz.prog [.cell 2 tFl,.tmp 3] (fun r h'=>h'=h3∧∃q,r=.tuple (.cons (.agg (V.ofList (qQ (a,t)))) (.cons (.bool q) .nil))) (acp (T.set (some (.str s)) (Pos.of 0) T.nil) h) by
  obtain⟨r,h',e,rfl,q,rfl⟩:=T
  exact⟨(a,t),q,h',by rw [azS];exact e,ha,ht,c3⟩
 simp (disch:=omega) only [vvB,Nat.reduceEqDiff,reduceCtorEq,↓reduceIte,acp,ao0,aoZ,aoY,←hh1,e1]
 refine Oc.then (dY (σ:=Bool) (n:=a.length) (pi:=16) (pn:=15) (pc:=17) [2,4,5,6] (fun q=> [.ptr h.next 0,.str a,.str b,.bool q]) (fun k _ g=>g=h1)
  (A:=fun fr g=>g=h1∧∃q,Fa fr [2,4,5,6] [.ptr h.next 0,.str a,.str b,.bool q]) (B:=fun _ _=>False) (s:=f)
  (fun fr h _ k e1 e2=>by simp only [vvB,Nat.reduceEqDiff,reduceCtorEq,↓reduceIte,aoX,e1,e2]) (fun fr h k _ e1=>by simp (disch:=omega) only [vvB,Nat.reduceEqDiff,reduceCtorEq,↓reduceIte,aoW,e1]) (by decide) (by rw [dS];omega) (qK0) (qK0) (by simp only [Fa,vvB,Nat.reduceEqDiff,reduceCtorEq,↓reduceIte,and_self]) rfl ?_ ?_) ?_ ?_
 ·intro k q fr g hk f16 f15 fa hI
  obtain⟨f2,f4,f5,f6,-⟩:=fa
  subst hI
  obtain⟨c,hc⟩:∃c,a[k]?=some c:=⟨_,List.getElem?_eq_getElem hk⟩
  have ex:dG (.str a) (.int .i64 (k:Int)) g=.ok (.int .u8 (c:Int)) g:=jl hc
  cases q with
  |false=>
   simp (disch:=omega) only [vvB,Nat.reduceEqDiff,reduceCtorEq,↓reduceIte,SX,SV,f6,f16]
   exact⟨qK2 f16,qK2 f15,false,by simp only [Fa,vvB,Nat.reduceEqDiff,reduceCtorEq,↓reduceIte,f2,f4,f5,and_self],rfl⟩
  |true=>
   by_cases h1:(c:Int)≥33
   ·have q1:=eq_true h1
    simp (disch:=omega) only [vvB,Nat.reduceEqDiff,reduceCtorEq,↓reduceIte,SX,SV,f4,f6,f16,ex,q1,decide_true]
    exact⟨qK2 f16,qK2 f15,decide ((c:Int)≤126),by simp only [Fa,vvB,Nat.reduceEqDiff,reduceCtorEq,↓reduceIte,f2,f4,f5,and_self],rfl⟩
   ·have q1:=eq_false h1
    simp (disch:=omega) only [vvB,Nat.reduceEqDiff,reduceCtorEq,↓reduceIte,SX,SV,f4,f6,f16,ex,q1,decide_false]
    exact⟨qK2 f16,qK2 f15,false,by simp only [Fa,vvB,Nat.reduceEqDiff,reduceCtorEq,↓reduceIte,f2,f4,f5,and_self],rfl⟩
 ·intro q fr g fa hI
  exact⟨hI,q,fa⟩
 ·rintro fr g ⟨rfl,q,f2,f4,f5,f6,-⟩
  have K3:=k3.ldN (n:=2) rfl
  cases q with
  |true=>
   simp (disch:=omega) only [vvB,Nat.reduceEqDiff,reduceCtorEq,↓reduceIte,abR,f2,f4,f5,f6,e2,BB,S3]
   exact aU.ret (by simp only [bD,vvB,Nat.reduceEqDiff,reduceCtorEq,↓reduceIte,f2,aAO,K3,bF]<;>rfl) ⟨rfl,_,rfl⟩
  |false=>
   simp (disch:=omega) only [vvB,Nat.reduceEqDiff,reduceCtorEq,↓reduceIte,abR,f2,f4,f5,f6,e2,BB,S3]
   exact aU.ret (by simp only [bD,vvB,Nat.reduceEqDiff,reduceCtorEq,↓reduceIte,f2,aAO,K3,bF]<;>rfl) ⟨rfl,_,rfl⟩
 ·intro fr g q;exact q.elim
end Go.Proofs.Im

noncomputable section
namespace Go.Im
open Go Go.Vm Go.Ln
theorem aEJ{fi:EY}{keep:Nat→Bool}{t:Nat}{ps:List Nat}{Da Db:Go.Vm.F→Hp→Out}{fr:Go.Vm.F}{h:Hp}{f:Nat}{a b:V}{I:ah5}(hf:fr.get (Pos.of t)=some (.func (.func f) a b))(hi:fi f=some I):
  aaK fi keep (.tmp t) ps Da Db fr h=(match I (tC keep ps Da Db fr) h.next.nat (a.list++(.func (.yield h.next.nat) .nil .nil::b.list)) (aH 1 h) with
    | .ok h' p=>(match p with
     |none=>.nor fr h'
     |some j=>(match j with| .ret=>.ret fr h'| .ex i=>.ex i fr h'))
    | .bad=>.bad):=by
 unfold aaK XW XT
 simp only [dn]
 unfold Go.Vm.gt
 rw [hf]
 simp only [hi]
 cases I (tC keep ps Da Db fr) h.next.nat (a.list++(.func (.yield h.next.nat) .nil .nil::b.list)) (aH 1 h) with
 |ok h' p=>cases p with
  |none=>rfl
  |some j=>cases j<;>rfl
 |bad=>rfl
theorem aJv{pre:Go.Vm.F→Hp→Out}{l:List Operand}{k:Nat}{Y:List V→Hp→YR}{post:Bool→Go.Vm.F→Hp→Out}{fr fr1:Go.Vm.F}{h h1:Hp}{args:List V}(e:pre fr h=.nor fr1 h1)(a:aml l fr1 k=some args):
  aHa pre l k Y post fr h none=(match Y args h1 with
    | .go h2=>DZ (post true fr1 h2) none
    | .stop q h2=>DZ (post false fr1 h2) (some q)
    | .bad=>.bad):=by
 unfold aHa
 simp only [e,a]
 cases Y args h1<;>rfl
theorem aNg{fr:Go.Vm.F}{k a b c:Nat}{x y:V}(f0:fr.get (Pos.of a)=some (.func (.yield k) .nil .nil))(f1:fr.get (Pos.of b)=some x)(f2:fr.get (Pos.of c)=some y):aml [.tmp a,.tmp b,.tmp c] fr k=some [x,y]:=by
 unfold aml
 simp only [SC,f0,f1,f2,Nat.beq_refl]
structure SpS (B:Nat) (p7 p8:Pos) (tI tR tS:TypeId) (h0 g:Hp) (gs:List (List Nat)) (a:Nat):Prop where
 k7:∃n:Int,Kn g p7 (.cells (.rw tI true) [.int .i64 n])
 k8:∃vg,Kn g p8 (.cells (.rw tR true) [vg])∧dA B (fun _=>False) (flat jH) tS 1 g vg gs
 ok:∀x∈gs,Sm a x∧x≠ []
 len:gs.length≤a
 nw:Nw h0 g
 base:B≤g.next.nat
theorem Sm.iT{n:Nat}{s:List Nat}(h:Sm n s):Sm n (iT s):=by
 unfold Go.Ln.iT
 split
 ·rw [List.dropLast_eq_take];exact h.take _
 ·exact h
theorem aFo(s:List Nat):(Go.Ln.iT s).length≤s.length:=by
 unfold Go.Ln.iT
 split
 ·rw [List.length_dropLast];omega
 ·exact Nat.le_refl _
end Go.Im
namespace Go.Proofs.Im
open Go Go.Proofs Go.Vm Go.Ln Go.Im
set_option maxRecDepth 100000
variable{h g h0:Hp}{p7 p8:Pos}{t:List Nat}{n c B a b:Nat}{w:Wr}{gs:List (List Nat)}
def Ns:Go.Vm.F→Hp→Out:=aB Jo Jm
def xA:Go.Vm.F→Hp→Out:=bP 1 (aB (aB oM (aV (.tmp 38) (aB Jl (Out.ex 0)) Out.nor)) (aB pV (aB pU (aV (.tmp 53) yR yQ))))
theorem aG9{fr:Go.Vm.F}(f7:fr.get (Pos.of 7)=some (.ptr p7 0))(f8:fr.get (Pos.of 8)=some (.ptr p8 0))(h7:p7.nat<B)(h8:p8.nat<B)(hne:p7≠p8)(hN7:h0.next.nat≤p7.nat)(hN8:h0.next.nat≤p8.nat)
  (q:SpS B p7 p8 fB tSS vz h0 g gs a) (hab:a<b) (hb:b≤1000000) (ht:Sm (b - a) t):
  ∃g' gs',((t≠ []∧tC ku [35,36] Ns xA fr [.str t,.int .i64 (b:Int)] g=.go g')∨tC ku [35,36] Ns xA fr [.str t,.int .i64 (b:Int)] g=.stop (.ex 0) g')∧SpS B p7 p8 fB tSS vz h0 g' gs' b∧Ch (fun j=>j=p7∨j=p8∨B≤j.nat) g g':=by
 obtain⟨⟨n7,k7⟩,⟨vg,k8,o8⟩,hok,hlen,nw,hbase⟩:=q
 have hmono:∀x∈gs,Sm b x∧x≠ []:=fun x hx=>⟨(hok x hx).1.mono (by omega),(hok x hx).2⟩
 have hsp:ahv ku [35,36] [.str t,.int .i64 (b:Int)] fr=some (T.set (some (.int .i64 (b:Int))) (Pos.of 36) (T.set (some (.str t)) (Pos.of 35) fr)):=rfl
 have hid:∀j,aX vg=some j→B≤j.nat∧j.nat<g.next.nat:=fun j e=>o8.dN e
 have start:tC ku [35,36] Ns xA fr [.str t,.int .i64 (b:Int)] g=(match xA (T.set (some (.int .i64 (b:Int))) (Pos.of 10) (T.set (some (.str t)) (Pos.of 9) (T.set (some (.int .i64 (b:Int))) (Pos.of 36) (T.set (some (.str t)) (Pos.of 35) fr)))) g with
   | .nor _ h=>.go h
   | .ret _ h=>.stop .ret h
   | .ex i _ h=>.stop (.ex i) h
   | .bad=>.bad):=by
  unfold tC
  rw [hsp]
  have e:Ns (T.set (some (.int .i64 (b:Int))) (Pos.of 36) (T.set (some (.str t)) (Pos.of 35) fr)) g=.nor (T.set (some (.int .i64 (b:Int))) (Pos.of 10) (T.set (some (.str t)) (Pos.of 9) (T.set (some (.int .i64 (b:Int))) (Pos.of 36) (T.set (some (.str t)) (Pos.of 35) fr)))) g:=by
   simp only [Ns,vvB,Nat.reduceEqDiff,reduceCtorEq,↓reduceIte,Jo,Jm]
  simp only [e]
  cases xA (T.set (some (.int .i64 (b:Int))) (Pos.of 10) (T.set (some (.str t)) (Pos.of 9) (T.set (some (.int .i64 (b:Int))) (Pos.of 36) (T.set (some (.str t)) (Pos.of 35) fr)))) g<;>rfl
 rw [start]
 by_cases hz:t= []
 ·
  have ez:(t= [])=True:=eq_true hz
  obtain⟨g2,hg2⟩:∃g2,g2=g.put p7 (some (.cells (.rw fB true) [.int .i64 (b:Int)])):=⟨_,rfl⟩
  have S1:aO 1 (.ptr p7 0) (.int .i64 (b:Int)) g=.ok V.undef g2:=by rw [hg2];exact k7.st (q:=0) ⟨rfl,rfl⟩ (by simp)
  have c2:Ch (fun j=>j=p7) g g2:=by rw [hg2];exact Ch.put _ _ rfl
  refine⟨g2,gs,.inr ?_,⟨⟨b,by rw [hg2];exact k7.put _⟩,⟨vg,k8.ch c2 (fun e=>hne e.symm),o8.ch (aQ _) c2 (fun j e e'=>by have:=(hid j e).1;rw [e'] at this;omega) fun _ _ q=>q.elim⟩,hmono,by omega,nw.then c2 fun j hj e=>by rw [e] at hj;omega,by have:=c2.next;omega⟩,c2.mono fun j _ e=>.inl e⟩
  simp (disch:=omega) only [vvB,Nat.reduceEqDiff,reduceCtorEq,↓reduceIte,xA,oM,Jl,f7,ez,decide_true,S1]
 ·have ez:(t= [])=False:=eq_false hz
  obtain⟨ch,hch⟩:∃ch,t[0]?=some ch:=⟨_,List.getElem?_eq_getElem (List.length_pos_iff.2 hz)⟩
  have ex:dG (.str t) (.int .i64 0) g=.ok (.int .u8 (ch:Int)) g:=jl (m:=0) hch
  have L8:=k8.ld (q:=0) (x:=vg) rfl
  have ll:=o8.len g
  have app:∃g2 gs',(∀fr2:Go.Vm.F,fr2.get (Pos.of 8)=some (.ptr p8 0)→fr2.get (Pos.of 9)=some (.str t)→yQ fr2 g=.nor fr2 g2)∧SpS B p7 p8 fB tSS vz h0 g2 gs' b∧Ch (fun j=>j=p7∨j=p8∨B≤j.nat) g g2:=by
   obtain⟨v',g1,e1,o1,c1,n1,i1⟩:=o8.awc (bt:=16) (x:=t) hbase rfl (by omega)
   have e1':bT vz 1 16 vg (.slice g.next 0 1 (.kn 1)) (g.new (.cells (.rw vz true) [.str t]))=.ok v' g1:=e1
   have B1:bI vz [(.str [])] 1 [(0,1,.str t)] g=.ok (.slice g.next 0 1 (.kn 1)) (g.new (.cells (.rw vz true) [.str t])):=rfl
   have k81:=k8.ch c1 fun e=>by have:=(hid _ e).1;omega
   obtain⟨g2,hg2⟩:∃g2,g2=g1.put p8 (some (.cells (.rw tSS true) [v'])):=⟨_,rfl⟩
   have S2:aO 1 (.ptr p8 0) v' g1=.ok V.undef g2:=by rw [hg2];exact k81.st (q:=0) o1.cell (by simp)
   have c2:Ch (fun j=>j=p8) g1 g2:=by rw [hg2];exact Ch.put _ _ rfl
   have c12:Ch (fun j=>j=p8∨aX vg=some j) g g2:=(c1.mono fun j _ e=>.inr e).trans c2 fun j _ e=>.inl e
   refine⟨g2,gs++ [t],fun fr2 f8 f9=>?_,⟨⟨n7,(k7.ch c1 fun e=>by have:=(hid _ e).1;omega).ch c2 hne⟩,⟨v',by rw [hg2];exact k81.put _,o1.ch (aQ _) c2 (fun j e e'=>by have:=i1 j e;have:=k8.2;rw [e'] at*;omega) fun _ _ q=>q.elim⟩,?_,by rw [List.length_append,List.length_singleton];omega,?_,by have:=c12.next;omega⟩,c12.mono fun j _ e=>e.elim (fun e=>.inr (.inl e)) fun e=>.inr (.inr (hid j e).1)⟩
   ·simp (disch:=omega) only [vvB,Nat.reduceEqDiff,reduceCtorEq,↓reduceIte,yQ,f8,f9,L8,B1,e1',S2]
   ·intro x hx
    rcases List.mem_append.1 hx with hx|hx
    ·exact hmono x hx
    ·simp at hx;subst hx;exact⟨ht.mono (by omega),hz⟩
   ·exact nw.then c12 fun j hj e=>by
     rcases e with e|e
     ·rw [e] at hj;omega
     ·have:=(hid j e).1;omega
  have join:gs≠ []→∃g2 gs',(∀fr2:Go.Vm.F,fr2.get (Pos.of 8)=some (.ptr p8 0)→fr2.get (Pos.of 9)=some (.str t)→fr2.get (Pos.of 11)=some (.int .i64 (gs.length:Int))→yR fr2 g=.nor fr2 g2)∧SpS B p7 p8 fB tSS vz h0 g2 gs' b∧Ch (fun j=>j=p7∨j=p8∨B≤j.nat) g g2:=by
   intro hg
   have hgl:0<gs.length:=List.length_pos_iff.2 hg
   obtain⟨i,f,rfl,hi,ki⟩:=o8.open hg
   rw [show(gs.map jH).flatten=gs.map V.str from aaZ gs] at ki
   obtain⟨x,hx⟩:∃x,gs[gs.length - 1]?=some x:=⟨_,List.getElem?_eq_getElem (by omega)⟩
   have hxm:=hok x (List.mem_of_getElem? hx)
   have hn1:((gs.length:Int) - 1)=((gs.length - 1:Nat):Int):=by omega
   have I1:=fun g=>wK (sz:=1) (i:=i) (c:=.un 1) (m:=gs.length - 1) (n:=gs.length) (by omega) g
   rw [Nat.mul_one] at I1
   have L1:aF (.ptr i (gs.length - 1)) g=.ok (.str x) g:=ki.ld (by rw [List.getElem?_map,hx];rfl)
   have hxl:=hxm.1.1
   have htl:=ht.1
   have A1:∀g,aI .add .none (.str x) (.str t) g=.ok (.str (x++t)) g:=fun g=>dH (by omega)
   obtain⟨g2,hg2⟩:∃g2,g2=g.put i (some (.cells (.rw vz f) ((gs.set (gs.length - 1) (x++t)).map V.str))):=⟨_,rfl⟩
   have S1:aO 1 (.ptr i (gs.length - 1)) (.str (x++t)) g=.ok V.undef g2:=by
    rw [hg2,ki.st (q:=gs.length - 1) ⟨rfl,rfl⟩ (by rw [List.length_map];omega),List.map_set]
   have k2:Kn g2 i (.cells (.rw vz f) ((gs.set (gs.length - 1) (x++t)).map jH).flatten):=by
    rw [show((gs.set (gs.length - 1) (x++t)).map jH).flatten=(gs.set (gs.length - 1) (x++t)).map V.str from aaZ _,hg2];exact ki.put _
   have c2:Ch (fun j=>j=i) g g2:=by rw [hg2];exact Ch.put _ _ rfl
   have o2:=dA.mk (P:=fun _=>False) (b:=B) (c:=jH) (w:=1) (fun _=>rfl) hi k2
   rw [List.length_set] at o2
   refine⟨g2,gs.set (gs.length - 1) (x++t),fun fr2 f8 f9 f11=>?_,⟨⟨n7,k7.ch c2 fun e=>by rw [←e] at hi;omega⟩,⟨_,k8.ch c2 fun e=>by rw [←e] at hi;omega,o2⟩,?_,by rw [List.length_set];omega,nw.then c2 fun j hj e=>by rw [e] at hj;omega,by have:=c2.next;omega⟩,c2.mono fun j _ e=>.inr (.inr (by rw [e];exact hi))⟩
   ·simp (disch:=omega) only [vvB,Nat.reduceEqDiff,reduceCtorEq,↓reduceIte,yR,f8,f9,f11,L8,hn1,I1,L1,A1,S1]
   ·intro y hy
    rcases List.mem_or_eq_of_mem_set hy with hy|rfl
    ·exact hmono y hy
    ·exact⟨(hxm.1.app ht).mono (by omega),fun e=>hz (List.append_eq_nil_iff.1 e).2⟩
  by_cases hg:gs= []
  ·obtain⟨g2,gs',e2,q2,c2⟩:=app
   have e0:((gs.length:Int)>0)=False:=eq_false (by rw [hg];simp)
   refine⟨g2,gs',.inl ⟨hz,?_⟩,q2,c2⟩
   simp (disch:=omega) only [vvB,Nat.reduceEqDiff,reduceCtorEq,↓reduceIte,xA,oM,pV,pU,f8,ez,e0,decide_false,L8,ll]
   rw [e2 _ (qK2 f8) (qK0)]
   simp only [vvB,Nat.reduceEqDiff,reduceCtorEq,↓reduceIte]
  ·have e0:((gs.length:Int)>0)=True:=eq_true (by have:=List.length_pos_iff.2 hg;omega)
   obtain⟨g3,gs3,e3,q3,c3⟩:=join hg
   obtain⟨g2,gs',e2,q2,c2⟩:=app
   by_cases h32:(ch:Int)=32
   ·have e32:=eq_true h32
    refine⟨g3,gs3,.inl ⟨hz,?_⟩,q3,c3⟩
    simp (disch:=omega) only [vvB,Nat.reduceEqDiff,reduceCtorEq,↓reduceIte,xA,oM,pV,pU,f8,ez,e0,decide_false,decide_true,L8,ll,ex,e32]
    rw [e3 _ (qK2 f8) (qK0) (qK0)]
    simp only [vvB,Nat.reduceEqDiff,reduceCtorEq,↓reduceIte]
   ·have e32:=eq_false h32
    by_cases h9:(ch:Int)=9
    ·have e9:=eq_true h9
     refine⟨g3,gs3,.inl ⟨hz,?_⟩,q3,c3⟩
     simp (disch:=omega) only [vvB,Nat.reduceEqDiff,reduceCtorEq,↓reduceIte,xA,oM,pV,pU,f8,ez,e0,decide_false,decide_true,L8,ll,ex,e32,e9]
     rw [e3 _ (qK2 f8) (qK0) (qK0)]
     simp only [vvB,Nat.reduceEqDiff,reduceCtorEq,↓reduceIte]
    ·have e9:=eq_false h9
     refine⟨g2,gs',.inl ⟨hz,?_⟩,q2,c2⟩
     simp (disch:=omega) only [vvB,Nat.reduceEqDiff,reduceCtorEq,↓reduceIte,xA,oM,pV,pU,f8,ez,e0,decide_false,decide_true,L8,ll,ex,e32,e9]
     rw [e2 _ (qK2 f8) (qK0)]
     simp only [vvB,Nat.reduceEqDiff,reduceCtorEq,↓reduceIte]
end Go.Proofs.Im

noncomputable section
namespace Go.Im
open Go Go.Vm Go.Ln
def LnE(Q:Hp→Prop):OutI→Prop
 | .ex i _ g p=>i=0∧p=none∧Q g
 | .ret _ g p=>p=some (.ex 0)∧Q g
 | .nor _ _ _=>False
 | .bad=>False
end Go.Im
namespace Go.Proofs.Im
open Go Go.Proofs Go.Vm Go.Ln Go.Im
set_option maxRecDepth 100000
variable{h g h0:Hp}{p p7 p8 pa pt ps:Pos}{s t:List Nat}{n c B a b k:Nat}{gs:List (List Nat)}{fr frS:Go.Vm.F}{wt ws:Wr}
theorem aHS(f7:frS.get (Pos.of 7)=some (.ptr p7 0))(f8:frS.get (Pos.of 8)=some (.ptr p8 0))(h7:p7.nat<B)(h8:p8.nat<B)(hne:p7≠p8)(hN7:h0.next.nat≤p7.nat)(hN8:h0.next.nat≤p8.nat)
  (hs:Sm 1000000 s) (q:SpS B p7 p8 fB tSS vz h0 g gs 0) (ka:Kn g pa (.cells (.rw fB true) [.int .i64 0])) (kt:Kn g pt (.cells wt [.int .i64 (s.length:Int)])) (ks:Kn g ps (.cells ws [.str s]))
  (hpa:h0.next.nat≤pa.nat∧pa.nat<B∧pa≠p7∧pa≠p8∧pa≠pt∧pa≠ps) (hpt:pt.nat<B∧pt≠p7∧pt≠p8) (hps:ps.nat<B∧ps≠p7∧ps≠p8)
  (f0:fr.get (Pos.of 0)=some (.func (.yield k) .nil .nil)) (f1:fr.get (Pos.of 1)=some (.ptr pa 0)) (f2:fr.get (Pos.of 2)=some (.ptr pt 0)) (f3:fr.get (Pos.of 3)=some (.ptr ps 0)):
  ∃g' pp gs',aHY (EO (tC ku [35,36] Ns xA frS) k fr g none)=.ok g' pp∧(pp=none∨pp=some (.ex 0))∧SpS B p7 p8 fB tSS vz h0 g' gs' s.length:=by
 generalize hY:tC ku [35,36] Ns xA frS=Y
 have hl:=hs.1
 have key:LnE (fun g'=>∃gs',SpS B p7 p8 fB tSS vz h0 g' gs' s.length) (NE (FC Y k) lf fr g none):=by
  refine amZ (n:=0) (m:=s.length) (fun m fr g=>∃a gs,a+m=s.length∧SpS B p7 p8 fB tSS vz h0 g gs a∧Kn g pa (.cells (.rw fB true) [.int .i64 (a:Int)])∧Kn g pt (.cells wt [.int .i64 (s.length:Int)])∧Kn g ps (.cells ws [.str s])∧
   fr.get (Pos.of 0)=some (.func (.yield k) .nil .nil)∧fr.get (Pos.of 1)=some (.ptr pa 0)∧fr.get (Pos.of 2)=some (.ptr pt 0)∧fr.get (Pos.of 3)=some (.ptr ps 0)) (by rw [dS];omega) ⟨0,gs,by omega,q,ka,kt,ks,f0,f1,f2,f3⟩ ?_
  rintro m fr g ⟨a,gs,ham,q,ka,kt,ks,f0,f1,f2,f3⟩
  have La:=ka.ld (q:=0) (x:=.int .i64 (a:Int)) rfl
  have Lt:=kt.ld (q:=0) (x:=.int .i64 (s.length:Int)) rfl
  have Ls:=ks.ld (q:=0) (x:=.str s) rfl
  unfold FC
  by_cases hz:m=0
  ·have e0:((a:Int)<(s.length:Int))=False:=eq_false (by omega)
   have e1:aB yU (aV (.tmp 10) Out.nor (Out.ex 0)) fr g=.ex 0 (T.set (some (.bool false)) (Pos.of 10) fr) g:=by
    simp (disch:=omega) only [vvB,Nat.reduceEqDiff,reduceCtorEq,↓reduceIte,yU,f1,f2,La,Lt,e0,decide_false]
   rw [aJz (aHT e1)]
   have ha:a=s.length:=by omega
   rw [ha] at q
   exact⟨rfl,rfl,gs,q⟩
  ·have e0:((a:Int)<(s.length:Int))=True:=eq_true (by omega)
   have e1:aB yU (aV (.tmp 10) Out.nor (Out.ex 0)) fr g=.nor (T.set (some (.bool true)) (Pos.of 10) fr) g:=by
    simp (disch:=omega) only [vvB,Nat.reduceEqDiff,reduceCtorEq,↓reduceIte,yU,f1,f2,La,Lt,e0,decide_true]
   rw [Ky (Oq e1)]
   obtain⟨t0,ht0⟩:∃t0,t0=(s.drop a).take (s.length - a):=⟨_,rfl⟩
   have st0:Sm (s.length - a) t0:=⟨by rw [ht0,List.length_take];omega,by rw [ht0];exact((hs.drop a).take _).2⟩
   have lt0:t0.length=s.length - a:=by rw [ht0,List.length_take,List.length_drop];omega
   have sl:∀g,dZ (.str s) (some (.int .i64 (a:Int))) (some (.int .i64 (s.length:Int))) g=.ok (.str t0) g:=fun g=>by rw [ht0];exact auX (by omega) (Nat.le_refl _)
   have e2:Fv (T.set (some (.bool true)) (Pos.of 10) fr) g=.nor (T.set (some (.int .i64 (s.length:Int))) (Pos.of 6) (T.set (some (.str t0)) (Pos.of 5) (T.set (some (.bool true)) (Pos.of 10) fr))) g:=by
    simp (disch:=omega) only [vvB,Nat.reduceEqDiff,reduceCtorEq,↓reduceIte,Fv,f1,f2,f3,La,Lt,Ls,sl]
   have ei:∀g,nV [.str t0,.int .u8 10] g=.ok (.int .i64 (jY 10 t0)) g:=fun g=>KT (c:=10) (by decide)
   have mid:∃(t:List Nat) (b:Nat) (x:V),a<b∧b≤s.length∧Sm (b - a) t∧∃fr1:Go.Vm.F,
     aB yT (aB yS (aV (.tmp 19) Fq Out.nor)) (T.set (some (.int .i64 (s.length:Int))) (Pos.of 6) (T.set (some (.str t0)) (Pos.of 5) (T.set (some (.bool true)) (Pos.of 10) fr))) g=.nor fr1 g∧
     fr1.get (Pos.of 0)=some (.func (.yield k) .nil .nil)∧fr1.get (Pos.of 1)=some (.ptr pa 0)∧fr1.get (Pos.of 2)=some (.ptr pt 0)∧fr1.get (Pos.of 3)=some (.ptr ps 0)∧fr1.get (Pos.of 5)=some (.str t)∧fr1.get (Pos.of 6)=some (.int .i64 (b:Int)):=by
    rcases ap6 10 t0 with hi|⟨i,hi,hil⟩
    ·have e3:(jY 10 t0≥0)=False:=eq_false (by omega)
     refine⟨t0,s.length,V.undef,by omega,Nat.le_refl _,st0,_,by simp (disch:=omega) only [vvB,Nat.reduceEqDiff,reduceCtorEq,↓reduceIte,yT,yS,ei,e3,decide_false];rfl,?_,?_,?_,?_,?_,?_⟩<;>simp only [vvB,Nat.reduceEqDiff,reduceCtorEq,↓reduceIte,f0,f1,f2,f3]
    ·have e3:((i:Int)≥0)=True:=eq_true (by omega)
     rw [hi] at ei
     have s4:∀g,dZ (.str t0) none (some (.int .i64 (i:Int))) g=.ok (.str (t0.take i)) g:=fun g=>vZ (by omega)
     have tr:∀g,Az [.str (t0.take i),.str [13]] g=.ok (.str (iT (t0.take i))) g:=fun g=>azZ (by rw [List.length_take];omega) g
     have cC:∀{kk:Out},chk (fun h=>aF (.ptr pa 0) h) (.int .i64 (a:Int)) kk 1 [g]=kk:=Bl rfl La
     have a1:∀g,aI .add .none (.int .i64 (a:Int)) (.int .i64 (i:Int)) g=.ok (.int .i64 ((a+i:Nat):Int)) g:=fun g=>by rw [FK (by omega) (by omega)];congr 2
     have a2:∀g,aI .add .none (.int .i64 ((a+i:Nat):Int)) (.int .i64 1) g=.ok (.int .i64 ((a+i+1:Nat):Int)) g:=fun g=>by rw [FK (by omega) (by omega)];try rfl
     have b0:aH 0 g=g:=rfl
     refine⟨iT (t0.take i),a+i+1,V.undef,by omega,by omega,⟨Nat.le_trans (aFo _) (by rw [List.length_take];omega),((st0.take i).iT).2⟩,_,by simp (disch:=omega) only [vvB,Nat.reduceEqDiff,reduceCtorEq,↓reduceIte,yT,yS,Fq,ei,e3,decide_true,f1,s4,tr,La,b0,cC,a1,a2];rfl,?_,?_,?_,?_,?_,?_⟩<;>simp only [vvB,Nat.reduceEqDiff,reduceCtorEq,↓reduceIte,f0,f1,f2,f3]
   obtain⟨t,b,-,hab,hbl,hst,fr1,em,g0,g1,g2,g3,g5,g6⟩:=mid
   obtain⟨g',gs',hy,q',c'⟩:=aG9 (fr:=frS) f7 f8 h7 h8 hne hN7 hN8 q hab (Nat.le_trans hbl hl) hst
   rw [hY] at hy
   have ka':=ka.ch c' fun e=>e.elim hpa.2.2.1 fun e=>e.elim hpa.2.2.2.1 fun e=>by have:=hpa.2.1;omega
   have kt':=kt.ch c' fun e=>e.elim hpt.2.1 fun e=>e.elim hpt.2.2 fun e=>by have:=hpt.1;omega
   have ks':=ks.ch c' fun e=>e.elim hps.2.1 fun e=>e.elim hps.2.2 fun e=>by have:=hps.1;omega
   have pre:(fun fr h=>gtO (T.get fr (Pos.of 0)) fun v0=>gtO (T.get (T.set (some v0) (Pos.of 28) fr) (Pos.of 5)) fun v5=>gtO (T.get (T.set (some v5) (Pos.of 29) (T.set (some v0) (Pos.of 28) fr)) (Pos.of 6)) fun v6=>Out.nor (T.set (some v6) (Pos.of 30) (T.set (some v5) (Pos.of 29) (T.set (some v0) (Pos.of 28) fr))) h) fr1 g=.nor (T.set (some (.int .i64 (b:Int))) (Pos.of 30) (T.set (some (.str t)) (Pos.of 29) (T.set (some (.func (.yield k) .nil .nil)) (Pos.of 28) fr1))) g:=by
    simp only [vvB,Nat.reduceEqDiff,reduceCtorEq,↓reduceIte,g0,g5,g6]
   have r5:kT Y k fr1 g none=_:=aJv pre (aNg (x:=.str t) (y:=.int .i64 (b:Int)) (qK0) (qK0) (qK0))
   rw [show afh 1 (vC (kR Fv) (vC (kR (aB yT (aB yS (aV (.tmp 19) Fq Out.nor)))) (vC (vC (kT Y k) (kR (aV (.tmp 32) Out.ret Out.nor))) (kR tu)))) (T.set (some (.bool true)) (Pos.of 10) fr) g none=(match (vC (vC (kT Y k) (kR (aV (.tmp 32) Out.ret Out.nor))) (kR tu)) fr1 g none with
     | .nor fr h p=>.nor fr h p
     | .ret fr h p=>.ret fr h p
     | .ex i fr h p=>(match Nat.beq i 1 with|true=>.nor fr h p|false=>.ex i fr h p)
     | .bad=>.bad) from by
    unfold afh
    rw [Ky (Oq e2),Ky (Oq em)]
    cases(vC (vC (kT Y k) (kR (aV (.tmp 32) Out.ret Out.nor))) (kR tu)) fr1 g none<;>rfl]
   rcases hy with⟨-,hy⟩|hy
   ·
    obtain⟨fr2,hfr2⟩:∃fr2,fr2=T.set (some (.bool false)) (Pos.of 32) (T.set (some (.int .i64 (b:Int))) (Pos.of 30) (T.set (some (.str t)) (Pos.of 29) (T.set (some (.func (.yield k) .nil .nil)) (Pos.of 28) fr1))):=⟨_,rfl⟩
    have r5':kT Y k fr1 g none=.nor fr2 g' none:=by
     rw [r5,hy,hfr2];rfl
    have c32:aV (.tmp 32) Out.ret Out.nor fr2 g'=.nor fr2 g':=by rw [hfr2];simp only [vvB,Nat.reduceEqDiff,reduceCtorEq,↓reduceIte]
    obtain⟨g4,hg4⟩:∃g4,g4=g'.put pa (some (.cells (.rw fB true) [.int .i64 (b:Int)])):=⟨_,rfl⟩
    have S6:aO 1 (.ptr pa 0) (.int .i64 (b:Int)) g'=.ok V.undef g4:=by rw [hg4];exact ka'.st (q:=0) ⟨rfl,rfl⟩ (by simp)
    have r6:tu fr2 g'=.nor fr2 g4:=by rw [hfr2];simp only [vvB,Nat.reduceEqDiff,reduceCtorEq,↓reduceIte,tu,g1,g6,S6]
    rw [Ky (show vC (kT Y k) (kR (aV (.tmp 32) Out.ret Out.nor)) fr1 g none=.nor fr2 g' none by rw [Ky r5',Oq c32]),Oq r6]
    have c4:Ch (fun j=>j=pa) g' g4:=by rw [hg4];exact Ch.put _ _ rfl
    obtain⟨⟨n7,k7⟩,⟨vg,k8,o8⟩,hok,hlen,nw,hbase⟩:=q'
    refine⟨rfl,m - (b - a),by omega,b,gs',by omega,⟨⟨n7,k7.ch c4 fun e=>hpa.2.2.1 e.symm⟩,⟨vg,k8.ch c4 fun e=>hpa.2.2.2.1 e.symm,o8.ch (aQ _) c4 (fun j e e'=>by have:=(o8.dN e).1;rw [e'] at this;omega) fun _ _ q=>q.elim⟩,hok,hlen,nw.then c4 fun j hj e=>by rw [e] at hj;omega,by have:=c4.next;omega⟩,
     by rw [hg4];exact ka'.put _,kt'.ch c4 fun e=>hpa.2.2.2.2.1 e.symm,ks'.ch c4 fun e=>hpa.2.2.2.2.2 e.symm,by rw [hfr2];simp only [vvB,Nat.reduceEqDiff,reduceCtorEq,↓reduceIte,g0],by rw [hfr2];simp only [vvB,Nat.reduceEqDiff,reduceCtorEq,↓reduceIte,g1],by rw [hfr2];simp only [vvB,Nat.reduceEqDiff,reduceCtorEq,↓reduceIte,g2],by rw [hfr2];simp only [vvB,Nat.reduceEqDiff,reduceCtorEq,↓reduceIte,g3]⟩
   ·
    obtain⟨fr2,hfr2⟩:∃fr2,fr2=T.set (some (.bool true)) (Pos.of 32) (T.set (some (.int .i64 (b:Int))) (Pos.of 30) (T.set (some (.str t)) (Pos.of 29) (T.set (some (.func (.yield k) .nil .nil)) (Pos.of 28) fr1))):=⟨_,rfl⟩
    have r5':kT Y k fr1 g none=.nor fr2 g' (some (.ex 0)):=by
     rw [r5,hy,hfr2];rfl
    have c32:aV (.tmp 32) Out.ret Out.nor fr2 g'=.ret fr2 g':=by rw [hfr2];simp only [vvB,Nat.reduceEqDiff,reduceCtorEq,↓reduceIte]
    rw [aHt (show vC (kT Y k) (kR (aV (.tmp 32) Out.ret Out.nor)) fr1 g none=.ret fr2 g' (some (.ex 0)) by rw [Ky r5',aE1 c32])]
    obtain⟨h1,h2,hok,hlen,nw,hbase⟩:=q'
    exact⟨rfl,gs',h1,h2,fun x hx=>⟨(hok x hx).1.mono hbl,(hok x hx).2⟩,by omega,nw,hbase⟩
 unfold EO afh
 cases hk:NE (FC Y k) lf fr g none with
 |nor _ _ _=>rw [hk] at key;exact key.elim
 |bad=>rw [hk] at key;exact key.elim
 |ret fr g pp=>
  rw [hk] at key
  obtain⟨rfl,gs',q'⟩:=key
  exact⟨g,_,gs',rfl,.inr rfl,q'⟩
 |ex i fr g pp=>
  rw [hk] at key
  obtain⟨rfl,rfl,gs',q'⟩:=key
  exact⟨g,_,gs',rfl,.inl rfl,q'⟩
end Go.Proofs.Im

noncomputable section
namespace Go.Im
open Go Go.Vm Go.Ln
end Go.Im
namespace Go.Proofs.Im
open Go Go.Proofs Go.Vm Go.Ln Go.Im
set_option maxRecDepth 100000
variable{h h' g:Hp}{pa pt ps:Pos}{v:V}{s:List Nat}{n B a b k:Nat}{gs:List (List Nat)}{fr frS:Go.Vm.F}{fs:List (List Nat×List Nat)}
theorem aEq(s:List Nat)(a b:Int)(h:Hp):∃pa pt ps h',JJ [.str s,.int .i64 a,.int .i64 b] h=.ok (.func (.func Sj) .nil (.cons (.ptr pa 0) (.cons (.ptr pt 0) (.cons (.ptr ps 0) .nil)))) h'∧Nw h h'∧
  Kn h' pa (.cells (.rw fB true) [.int .i64 a])∧Kn h' pt (.cells (.rw fB true) [.int .i64 b])∧Kn h' ps (.cells (.rw vz true) [.str s])∧h.next.nat≤ps.nat∧ps.nat<pa.nat∧pa.nat<pt.nat:=by
 obtain⟨h1,hh1,c1,k1⟩:=mkW h (.cells (.rw vz true) [.str s])
 have n1:h1.next.nat=h.next.nat+1:=by rw [hh1];exact aZ _ _
 obtain⟨h2,hh2,c2,k2⟩:=mkW h1 (.cells (.rw fB true) [.int .i64 a])
 have n2:h2.next.nat=h1.next.nat+1:=by rw [hh2];exact aZ _ _
 obtain⟨h3,hh3,c3,k3⟩:=mkW h2 (.cells (.rw fB true) [.int .i64 b])
 have B1:fV vz (.str s) h=.ok (.ptr h.next 0) h1:=by rw [hh1];rfl
 have B2:fV fB (.int .i64 a) h1=.ok (.ptr h1.next 0) h2:=by rw [hh2];rfl
 have B3:fV fB (.int .i64 b) h2=.ok (.ptr h2.next 0) h3:=by rw [hh3];rfl
 refine⟨h1.next,h2.next,h.next,h3,?_,(c1.trans c2).trans c3,k2.nw c3,k3,(k1.nw c2).nw c3,Nat.le_refl _,by omega,by omega⟩
 rw [atx]
 simp only [vvB,Nat.reduceEqDiff,reduceCtorEq,↓reduceIte,acr,agF,agE,B1,B2,B3]
 simp only [aT,bD,vvB,Nat.reduceEqDiff,reduceCtorEq,↓reduceIte,bF]<;>rfl
theorem aFl(x:V)(h:Hp):vT Tryz.prog fB x h=aF x h:=by kernel_rfl
theorem aEp(hs:Sm 1000000 s):∃v b fs h',TN [.str s,.int .i64 0,.int .i64 (s.length:Int)] h=.ok (.tuple (.cons v (.cons (.int .i64 b) .nil))) h'∧Rws (fun j=>h.next.nat≤j.nat) (flat qQ) 2 h' v fs∧fs.length≤1000000∧(∀x∈fs,Sm 1000000 x.1∧Sm 1000000 x.2)∧Nw h h':=by
 have hl:=hs.1
 obtain⟨h1,hh1,c1,k1⟩:=mkW h (.cells (.rw fB true) [.int .i64 0])
 have n1:h1.next.nat=h.next.nat+1:=by rw [hh1];exact aZ _ _
 have N1:fC fB [.int .i64 0] h=.ok (.ptr h.next 0) h1:=by rw [hh1];rfl
 obtain⟨h2,hh2⟩:∃h2,h2=h1.put h.next (some (.cells (.rw fB true) [.int .i64 (s.length:Int)])):=⟨_,rfl⟩
 have S2:aO 1 (.ptr h.next 0) (.int .i64 (s.length:Int)) h1=.ok V.undef h2:=by rw [hh2];exact k1.st (q:=0) ⟨rfl,rfl⟩ (by simp)
 have k2:Kn h2 h.next (.cells (.rw fB true) [.int .i64 (s.length:Int)]):=by rw [hh2];exact k1.put _
 have c2:Nw h h2:=c1.then (by rw [hh2];exact Ch.put (S:=fun j=>j=h.next) _ _ rfl) fun j hj e=>by rw [e] at hj;omega
 have n2:h2.next=h1.next:=by rw [hh2];rfl
 obtain⟨h3,hh3,c3,k3⟩:=mkW h2 (.cells (.rw tSS true) [.aG])
 have n3:h3.next.nat=h2.next.nat+1:=by rw [hh3];exact aZ _ _
 have N3:fC tSS [.aG] h2=.ok (.ptr h2.next 0) h3:=by rw [hh3];rfl
 obtain⟨pa,pt,ps,h4,e4,c4,ka,kt,ks,hps,hpsa,hpat⟩:=aEq s 0 (s.length:Int) h3
 have c04:=(c2.trans c3).trans c4
 have n4:=c4.next
 have n2':h2.next.nat=h.next.nat+1:=by rw [n2];exact n1
 have hpsl:=ks.2
 have hpal:=ka.2
 have hptl:=kt.2
 have nb:(aH 1 h4).next.nat=h4.next.nat+1:=qp _ _
 have cb:Nw h4 (aH 1 h4):=Nw.bump _ _
 have q0:SpS (aH 1 h4).next.nat h.next h2.next fB tSS vz h (aH 1 h4) [] 0:=
  ⟨⟨_,((k2.nw c3).nw c4).nw cb⟩,⟨.aG,(k3.nw c4).nw cb,dA.nil _ _ _ _ _ _⟩,fun _ q=>(by cases q),Nat.le_refl _,c04.trans cb,Nat.le_refl _⟩
 have ne:∀{i j:Pos},i.nat≠j.nat→i≠j:=fun hn e=>hn (congrArg Pos.nat e)
 suffices T:aU Tryz.prog [.tmp 6,.cell 7 fB] (fun r h'=>∃v b fs,r=.tuple (.cons v (.cons (.int .i64 b) .nil))∧Rws (fun j=>h.next.nat≤j.nat) (flat qQ) 2 h' v fs∧fs.length≤1000000∧(∀x∈fs,Sm 1000000 x.1∧Sm 1000000 x.2)∧Nw h h')
   (Tq (T.set (some (.int .i64 (s.length:Int))) (Pos.of 2) (T.set (some (.int .i64 0)) (Pos.of 1) (T.set (some (.str s)) (Pos.of 0) T.nil))) h) by
  obtain⟨r,h',e,v,b,fs,rfl,q⟩:=T
  exact⟨v,b,fs,h',by rw [atw];exact e,q⟩
 have e00:((0:Int)<0)=False:=eq_false (by omega)
 have e01:((s.length:Int)>(s.length:Int))=False:=eq_false (by omega)
 have e02:((0:Int)>(s.length:Int))=False:=eq_false (by omega)
 simp (disch:=omega) only [vvB,Nat.reduceEqDiff,reduceCtorEq,↓reduceIte,Tq,agD,agC,agB,agA,agz,←hh1,←hh3,e00,e01,e02,decide_false,S2,e4]
 generalize hfr:(T.set (some (V.func (.func Sj) .nil (.cons (.ptr pa 0) (.cons (.ptr pt 0) (.cons (.ptr ps 0) .nil))))) (Pos.of 34) _:Go.Vm.F)=frS
 have f7:frS.get (Pos.of 7)=some (.ptr h.next 0):=by rw [←hfr];simp only [vvB,Nat.reduceEqDiff,reduceCtorEq,↓reduceIte]
 have f8:frS.get (Pos.of 8)=some (.ptr h2.next 0):=by rw [←hfr];simp only [vvB,Nat.reduceEqDiff,reduceCtorEq,↓reduceIte]
 have f6:frS.get (Pos.of 6)=some .aG:=by rw [←hfr];simp only [vvB,Nat.reduceEqDiff,reduceCtorEq,↓reduceIte]
 have f34:frS.get (Pos.of 34)=some (.func (.func Sj) .nil (.cons (.ptr pa 0) (.cons (.ptr pt 0) (.cons (.ptr ps 0) .nil)))):=by rw [←hfr];simp only [vvB,Nat.reduceEqDiff,reduceCtorEq,↓reduceIte]
 obtain⟨g,pp,gs,el,hpp,q⟩:=aHS (fr:=T.set (some (.ptr ps 0)) (Pos.of 3) (T.set (some (.ptr pt 0)) (Pos.of 2) (T.set (some (.ptr pa 0)) (Pos.of 1) (T.set (some (.func (.yield h4.next.nat) .nil .nil)) (Pos.of 0) T.nil)))) (k:=h4.next.nat) f7 f8 (by omega) (by omega) (ne (by omega)) (Nat.le_refl _) (by omega) hs q0 (ka.nw cb) (kt.nw cb) (ks.nw cb)
  ⟨by omega,by omega,ne (by omega),ne (by omega),ne (by omega),ne (by omega)⟩ ⟨by omega,ne (by omega),ne (by omega)⟩ ⟨by omega,ne (by omega),ne (by omega)⟩ (qK0) (qK0) (qK0) (qK0)
 have hI:zu (tC ku [35,36] Ns xA frS) h4.next.nat [.func (.yield h4.next.nat) .nil .nil,.ptr pa 0,.ptr pt 0,.ptr ps 0] (aH 1 h4)=.ok g pp:=by
  rw [aqY];exact el
 have rg:wF 0 (aaK Dx ku (.tmp 34) [35,36] (aB Jo Jm) (bP 1 (aB (aB oM (aV (.tmp 38) (aB Jl (Out.ex 0)) Out.nor)) (aB pV (aB pU (aV (.tmp 53) yR yQ))))) frS h4)=.nor frS g:=by
  show wF 0 (aaK Dx ku (.tmp 34) [35,36] Ns xA frS h4)=_
  rw [aEJ f34 (show Dx Sj=some zu from rfl)]
  have hI':zu (tC ku [35,36] Ns xA frS) h4.next.nat ((V.nil).list++(.func (.yield h4.next.nat) .nil .nil::(V.cons (.ptr pa 0) (.cons (.ptr pt 0) (.cons (.ptr ps 0) .nil))).list)) (aH 1 h4)=.ok g pp:=hI
  rw [hI']
  rcases hpp with rfl|rfl<;>rfl
 rw [rg]
 obtain⟨⟨n7,k7⟩,⟨vg,k8,o8⟩,hok,hlen,nw,hbase⟩:=q
 have L8:=k8.ld (q:=0) (x:=vg) rfl
 have ll:=o8.len g
 have rg8:=o8.rows (P':=fun j=>(aH 1 h4).next.nat≤j.nat) (aQ _) (fun _ _ q=>q.elim) fun _ q _=>q
 simp (disch:=omega) only [vvB,Nat.reduceEqDiff,reduceCtorEq,↓reduceIte,ad8,f8,L8,ll]
 have gn:=nw.next
 refine Oc.then (dY (σ:=V×List (List Nat×List Nat)) (n:=gs.length) (pi:=68) (pn:=67) (pc:=69) [6,7,66] (fun q=> [q.1,.ptr h.next 0,vg]) (fun k q g2=>Nw h g2∧Ch (fun j=>g.next.nat≤j.nat) g g2∧dA g.next.nat (fun _=>False) (flat qQ) tFl 2 g2 q.1 q.2∧q.2.length≤k∧∀x∈q.2,Sm 1000000 x.1∧Sm 1000000 x.2)
  (A:=fun fr g2=>∃v fs,fr.get (Pos.of 6)=some v∧fr.get (Pos.of 7)=some (.ptr h.next 0)∧Nw h g2∧Ch (fun j=>g.next.nat≤j.nat) g g2∧dA g.next.nat (fun _=>False) (flat qQ) tFl 2 g2 v fs∧fs.length≤gs.length∧∀x∈fs,Sm 1000000 x.1∧Sm 1000000 x.2) (B:=fun _ _=>False) (s:=(.aG,[]))
  (fun fr h _ k e1 e2=>by simp only [vvB,Nat.reduceEqDiff,reduceCtorEq,↓reduceIte,ad7,e1,e2]) (fun fr h k _ e1=>by simp (disch:=omega) only [vvB,Nat.reduceEqDiff,reduceCtorEq,↓reduceIte,ad6,e1]) (by decide) (by rw [dS];omega) (qK1) (qK0) (by simp only [Fa,vvB,Nat.reduceEqDiff,reduceCtorEq,↓reduceIte,f6,f7,and_self]) ⟨nw,Ch.refl _ _,dA.nil _ _ _ _ _ _,Nat.le_refl _,fun _ q=>(by cases q)⟩ ?_ ?_) ?_ ?_
 ·rintro k ⟨v,fs⟩ fr g2 hk f68 f67 ⟨f6,f7,f66,-⟩ ⟨nw2,cg,o2,hfl,hfo⟩
  have f6:fr.get (Pos.of 6)=some v:=f6
  obtain⟨x,hx⟩:∃x,gs[k]?=some x:=⟨_,List.getElem?_eq_getElem hk⟩
  have hxm:=hok x (List.mem_of_getElem? hx)
  have rg2:=rg8.ch (P':=fun _=>True) (aQ _) cg fun j hj _=>⟨trivial,by omega⟩
  obtain⟨i,q,cs,ix,ex,-,-,-,ld,-⟩:=rg2.elt hx
  obtain rfl:cs=jH x:=ex
  have ld':=ld g2 rfl 0 (.str x) rfl
  rw [Nat.add_zero] at ld'
  obtain⟨ch,hch⟩:∃ch,x[0]?=some ch:=⟨_,List.getElem?_eq_getElem (List.length_pos_iff.2 hxm.2)⟩
  have exi:dG (.str x) (.int .i64 0) g2=.ok (.int .u8 (ch:Int)) g2:=jl (m:=0) hch
  have go:∀fr2:Go.Vm.F,fr2.get (Pos.of 13)=some (.str x)→fr2.get (Pos.of 6)=some v→fr2.get (Pos.of 7)=some (.ptr h.next 0)→fr2.get (Pos.of 66)=some vg→fr2.get (Pos.of 67)=some (.int .i64 (gs.length:Int))→fr2.get (Pos.of 68)=some (.int .i64 (k:Int))→
    Rd (σ:=V×List (List Nat×List Nat)) [6,7,66] (fun q=> [q.1,.ptr h.next 0,vg]) 68 67 k gs.length (fun q g2=>Nw h g2∧Ch (fun j=>g.next.nat≤j.nat) g g2∧dA g.next.nat (fun _=>False) (flat qQ) tFl 2 g2 q.1 q.2∧q.2.length≤k+1∧∀x∈q.2,Sm 1000000 x.1∧Sm 1000000 x.2)
     (fun fr g2=>∃v fs,fr.get (Pos.of 6)=some v∧fr.get (Pos.of 7)=some (.ptr h.next 0)∧Nw h g2∧Ch (fun j=>g.next.nat≤j.nat) g g2∧dA g.next.nat (fun _=>False) (flat qQ) tFl 2 g2 v fs∧fs.length≤gs.length∧∀x∈fs,Sm 1000000 x.1∧Sm 1000000 x.2) (fun _ _=>False) 2
     (wF 3 (nC (Fp fr2 g2) (aB Fj (aV (.tmp 90) Q7 Out.nor)))):=by
   intro fr2 f13 f6 f7 f66 f67 f68
   obtain⟨y,fl,g3,e3,hy1,hy2,c3⟩:=aJd (h:=g2) (hxm.1.mono hl) (Nat.le_refl _)
   obtain⟨g4,hg4⟩:∃g4,g4=g3.new (.cells (.rw tFl true) (qQ y)):=⟨_,rfl⟩
   have S4:aO 2 (.ptr g3.next 0) (.agg (V.ofList (qQ y))) (g3.new (.cells (.rw tFl true) [(.str []),(.str [])]))=.ok V.undef g4:=by rw [hg4];exact iF (V.dO _) rfl rfl
   have c4:Nw g3 g4:=by rw [hg4];exact Nw.new _ _
   have k4:Kn g4 g3.next (.cells (.rw tFl true) (qQ y)):=by rw [hg4];exact Kn.new _ _
   have c24:=c3.trans c4
   have o4:=o2.nw (aQ _) c24
   have cg4:=cg.nw c24
   have n24:=c24.next
   have ng:=cg.next
   cases fl with
   |false=>
    simp (disch:=omega) only [vvB,Nat.reduceEqDiff,reduceCtorEq,↓reduceIte,Fp,Fj,f13,e3,S4]
    exact⟨qK2 f68,qK2 f67,(v,fs),by simp only [Fa,vvB,Nat.reduceEqDiff,reduceCtorEq,↓reduceIte,f6,f7,f66,and_self],nw2.trans c24,cg4,o4,(show fs.length≤k+1 from Nat.le_succ_of_le hfl),hfo⟩
   |true=>
    have L4:=k4.ldN (n:=2) rfl
    have B4:bI tFl [(.str []),(.str [])] 1 [(0,2,.agg (V.ofList (qQ y)))] g4=.ok (.slice g4.next 0 1 (.kn 1)) (g4.new (.cells (.rw tFl true) (qQ y))):=rfl
    obtain⟨v',g5,e5,o5,c5,n5,i5⟩:=o4.awc (bt:=32) (x:=y) (by omega) rfl (by omega)
    have e5':bT tFl 2 32 v (.slice g4.next 0 1 (.kn 1)) (g4.new (.cells (.rw tFl true) (qQ y)))=.ok v' g5:=e5
    have hid:∀j,aX v=some j→g.next.nat≤j.nat:=fun j e=>(o4.dN e).1
    simp (disch:=omega) only [vvB,Nat.reduceEqDiff,reduceCtorEq,↓reduceIte,Fp,Fj,Q7,f13,f6,e3,S4,L4,B4,e5']
    refine⟨qK2 f68,qK2 f67,(v',fs++ [y]),by simp only [Fa,vvB,Nat.reduceEqDiff,reduceCtorEq,↓reduceIte,f7,f66,and_self],(nw2.trans c24).then c5 fun j hj e=>by have:=hid j e;omega,cg4.trans c5 fun j hj e=>hid j e,o5,(show(fs++ [y]).length≤k+1 by rw [List.length_append,List.length_singleton];exact Nat.succ_le_succ hfl),?_⟩
    intro z hz
    rcases List.mem_append.1 hz with hz|hz
    ·exact hfo z hz
    ·simp at hz;subst hz;exact⟨hy1,hy2⟩
  by_cases hk0:(k:Int)=0
  ·have ek0:=eq_true hk0
   by_cases h32:(ch:Int)=32
   ·have e32:=eq_true h32
    simp (disch:=omega) only [vvB,Nat.reduceEqDiff,reduceCtorEq,↓reduceIte,yP,yO,f66,f68,ix,ld',ek0,exi,e32,decide_true]
    exact⟨by simp only [vvB,Nat.reduceEqDiff,reduceCtorEq,↓reduceIte,f68,hk0],qK2 f67,(v,fs),by simp only [Fa,vvB,Nat.reduceEqDiff,reduceCtorEq,↓reduceIte,f6,f7,f66,and_self],nw2,cg,o2,(show fs.length≤k+1 from Nat.le_succ_of_le hfl),hfo⟩
   ·have e32:=eq_false h32
    by_cases h9:(ch:Int)=9
    ·have e9:=eq_true h9
     simp (disch:=omega) only [vvB,Nat.reduceEqDiff,reduceCtorEq,↓reduceIte,yP,yO,f66,f68,ix,ld',ek0,exi,e32,e9,decide_true,decide_false]
     exact⟨by simp only [vvB,Nat.reduceEqDiff,reduceCtorEq,↓reduceIte,f68,hk0],qK2 f67,(v,fs),by simp only [Fa,vvB,Nat.reduceEqDiff,reduceCtorEq,↓reduceIte,f6,f7,f66,and_self],nw2,cg,o2,(show fs.length≤k+1 from Nat.le_succ_of_le hfl),hfo⟩
    ·have e9:=eq_false h9
     simp (disch:=omega) only [vvB,Nat.reduceEqDiff,reduceCtorEq,↓reduceIte,yP,yO,f66,f68,ix,ld',ek0,exi,e32,e9,decide_true,decide_false]
     exact go _ (qK0) (qK2 f6) (qK2 f7) (qK2 f66) (qK2 f67) (qK2 f68)
  ·have ek0:=eq_false hk0
   simp (disch:=omega) only [vvB,Nat.reduceEqDiff,reduceCtorEq,↓reduceIte,yP,yO,f66,f68,ix,ld',ek0,decide_false]
   exact go _ (qK0) (qK2 f6) (qK2 f7) (qK2 f66) (qK2 f67) (qK2 f68)
 ·rintro⟨v,fs⟩ fr g2 ⟨f6,f7,f66,-⟩ ⟨nw2,cg,o2,hfl,hfo⟩
  exact⟨v,fs,f6,f7,nw2,cg,o2,hfl,hfo⟩
 ·rintro fr g2 ⟨v,fs,f6,f7,nw2,cg,o2,hfl,hfo⟩
  have k72:=k7.ch cg fun e=>by have:=k7.2;omega
  have L7:=k72.ld (q:=0) (x:=.int .i64 n7) rfl
  obtain⟨g3,hg3⟩:∃g3,g3=g2.put h.next (some (.cells (.rw fB true) [.int .i64 n7])):=⟨_,rfl⟩
  have S3:aO 1 (.ptr h.next 0) (.int .i64 n7) g2=.ok V.undef g3:=by rw [hg3];exact k72.st (q:=0) ⟨rfl,rfl⟩ (by simp)
  have k73:Kn g3 h.next (.cells (.rw fB true) [.int .i64 n7]):=by rw [hg3];exact k72.put _
  have L73:=k73.ld (q:=0) (x:=.int .i64 n7) rfl
  have c3:Ch (fun j=>j=h.next) g2 g3:=by rw [hg3];exact Ch.put _ _ rfl
  have b0:aH 0 g2=g2:=rfl
  simp (disch:=omega) only [vvB,Nat.reduceEqDiff,reduceCtorEq,↓reduceIte,ad5,f6,f7,b0,L7,S3]
  have kl:=k7.2
  refine aU.ret (by simp only [bD,vvB,Nat.reduceEqDiff,reduceCtorEq,↓reduceIte,f7,aFl,L73,bF]<;>rfl) ⟨v,n7,fs,rfl,?_,by omega,hfo,nw2.then c3 fun j hj e=>by rw [e] at hj;omega⟩
  have o3:=o2.ch (P':=fun _=>False) (aQ _) c3 (fun j e e'=>by have:=(o2.dN e).1;rw [e'] at this;omega) fun _ _ q=>q.elim
  exact o3.rows (aQ _) (fun _ _ q=>q.elim) fun j q _=>by omega
 ·intro fr g q;exact q.elim
end Go.Proofs.Im
