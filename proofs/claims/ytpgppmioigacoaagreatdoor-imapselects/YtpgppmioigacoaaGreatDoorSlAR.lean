/- Part of the value machine, or of a walk by it: lemmas that the claim's last text uses. No conditions. -/
import Derived.Test.YtpgppmioigacoaaGreatDoorSlAP
import Derived.Test.YtpgppmioigacoaaGreatDoorSlAO
set_option linter.unusedVariables false
set_option linter.unusedSimpArgs false
set_option linter.unnecessarySimpa false
noncomputable section
namespace Go.Proofs.Im
open Go Go.Proofs Go.Vm Go.Im
set_option maxRecDepth 100000
theorem XZ(h:Hp){n:Nat}(hn:n<256):∃k:Int,Nj [.int .u64 (n:Int)] h=.ok (.int .i64 k) h∧(0<n→k≠0):=by
 have c8:kU .u8 (.int .u64 (n:Int)) h=.ok (.int .u8 (n:Int)) h:=by
  show iw .u8 (xq .u8 (n:Int)) h=_
  rw [AU,wrap_u8 hn,fP]
 have key:∃k:Int,TG [.int .u64 (n:Int)] h=.ok (.int .i64 k) h∧(0<n→k≠0):=by
  rw [atq]
  suffices T:aU Tryz.prog [.tmp 2] (fun r g=>(∃k:Int,r=.int .i64 k∧(0<n→k≠0))∧g=h) (Tm (T.set (some (.int .u64 (n:Int))) (Pos.of 0) T.nil) h) by
   obtain⟨r,g,e,⟨k,rfl,hk⟩,rfl⟩:=T;exact⟨k,e,hk⟩
  simp (disch:=omega) only [vvB,Nat.reduceEqDiff,reduceCtorEq,↓reduceIte,Tm,agk,agj,agi,agh,adG,c8]
  refine aKs (Q:=fun o=>aU Tryz.prog [.tmp 2] (fun r g=>(∃k:Int,r=.int .i64 k∧(0<n→k≠0))∧g=h) (nC o Out.ret)) (by simp only [List.length_cons,List.length_nil,Nat.blt_eq];omega) (by rfl) (by rfl) fun a ha h1=>?_
  simp (disch:=omega) only [vvB,Nat.reduceEqDiff,reduceCtorEq,↓reduceIte]
  exact aU.ret (qT0) ⟨⟨(a:Int),by simp,fun q=>by have:=h1 q;omega⟩,rfl⟩
 obtain⟨k,e,hk⟩:=key
 refine⟨k,?_,hk⟩
 rw [azM]
 simp (disch:=omega) only [vvB,Nat.reduceEqDiff,reduceCtorEq,↓reduceIte,al0,aoB,aoA,e]
 simp only [aT,bD,vvB,Nat.reduceEqDiff,reduceCtorEq,↓reduceIte,bF]<;>rfl
theorem aku{h:Hp}{n:Int}(h0:0≤n)(h1:n<1000000):kU .u64 (.int .i64 n) h=.ok (.int .u64 n) h:=by
 show iw .u64 (xq .u64 n) h=_
 rw [AU,fP]
 congr 2
 simp [IntKind.wrap,IntKind.signed,IntKind.bits]
 omega
theorem akf{α:Type}{P:Pos→Prop}{c:α→List V}{h:Hp}{v:V}{l:List α}(r:Rws P (flat c) 1 h v l)(hs:l.length*8≤140737488355328):
  ∃r h',y9 [v] h=.ok r h'∧Rws (fun j=>h.next.nat≤j.nat) (flat c) 1 h' r l∧Nw h h'∧(l= []∨dA h.next.nat (fun _=>False) (flat c) 3 1 h' r l):=by
 obtain⟨css,a,hw,s,kk,p⟩:=r
 have hl0:l.length=0→l= []:=List.length_eq_zero_iff.1
 rw [amd]
 show aU Tryz.prog _ (fun r h'=>Rws (fun j=>h.next.nat≤j.nat) (flat c) 1 h' r l∧Nw h h'∧(l= []∨dA h.next.nat (fun _=>False) (flat c) 3 1 h' r l)) _
 by_cases hv:v=.aG
 ·subst hv
  have hl:l= []:=by
   rcases s.is with⟨h0,_⟩|⟨i,o,cp,wr,all,e,_⟩
   ·exact hl0 h0
   ·cases e
  subst hl
  simp (disch:=omega) only [vvB,Nat.reduceEqDiff,reduceCtorEq,↓reduceIte,yV,Am,Ak,Xi,sV]
  exact aU.ret (qT0) ⟨Rws.aG _ _ _ _,Nw.refl _,.inl (by trivial)⟩
 ·have hq:∀g,aI .eql .slice v .aG g=.ok (.bool false) g:=fun g=>by
   rcases s.is with⟨_,h0|h0⟩|⟨i,o,cp,wr,all,h0,_⟩
   ·exact absurd h0 hv
   ·rw [h0];rfl
   ·rw [h0];rfl
  have c1:Nw h (h.new (.cells (.rw 3 true) [])):=Nw.new _ _
  have s1:Sl h.next.nat (h.new (.cells (.rw 3 true) [])) 1 v l.length css.flatten:=s.ch c1 (Nat.le_refl _) fun _ _ q=>q
  by_cases hl:l= []
  ·subst hl
   cases a
   have hA:bT 3 1 8 (.slice h.next 0 0 (.kn 0)) v (h.new (.cells (.rw 3 true) []))=.ok (.slice h.next 0 0 (.kn 0)) (h.new (.cells (.rw 3 true) [])):=UM s1
   simp (disch:=omega) only [vvB,Nat.reduceEqDiff,reduceCtorEq,↓reduceIte,yV,Am,Ak,Jj,hq,sQ,hA]
   exact aU.ret (qT0) ⟨Rws.zero (Nat.le_refl _),c1,.inl (by trivial)⟩
  ·have hpos:0<l.length:=List.length_pos_iff.2 hl
   have hA:bT 3 1 8 (.slice h.next 0 0 (.kn 0)) v (h.new (.cells (.rw 3 true) []))=_:=Ii s1 hpos (p:=h.next) (wr:=.rw 3 true) (cs0:= []) (by rw [dD];rfl) hs
   simp (disch:=omega) only [vvB,Nat.reduceEqDiff,reduceCtorEq,↓reduceIte,yV,Am,Ak,Jj,hq,sQ,hA]
   have ow:dA h.next.nat (fun _=>False) (flat c) 3 1 ((h.new (.cells (.rw 3 true) [])).new (.cells (.rw 3 false) css.flatten)) (.slice (h.new (.cells (.rw 3 true) [])).next 0 l.length (.un 1)) l:=
    ⟨css,a,hw,s.len,.inr ⟨_,rfl,by have:=aZ h (.cells (.rw 3 true) []);omega,by have:=aZ (h.new (.cells (.rw 3 true) [])) (.cells (.rw 3 false) css.flatten);omega,false,dD _ _⟩⟩
   exact aU.ret (qT0) ⟨ow.rows (aQ _) (fun _ _ q=>q.elim) fun _ q _=>q,c1.trans (Nw.new _ _),.inr ow⟩
theorem azU{α:Type}{P:Pos→Prop}{c:α→List V}{h:Hp}{v:V}{l:List α}(r:Rws P (flat c) 6 h v l)(hs:l.length*56≤140737488355328):
  ∃r h',FD [v] h=.ok r h'∧Rws (fun j=>h.next.nat≤j.nat) (flat c) 6 h' r l∧Nw h h'∧(l= []∨dA h.next.nat (fun _=>False) (flat c) 55 6 h' r l):=by
 obtain⟨css,a,hw,s,kk,p⟩:=r
 have hl0:l.length=0→l= []:=List.length_eq_zero_iff.1
 rw [ame]
 show aU Tryz.prog _ (fun r h'=>Rws (fun j=>h.next.nat≤j.nat) (flat c) 6 h' r l∧Nw h h'∧(l= []∨dA h.next.nat (fun _=>False) (flat c) 55 6 h' r l)) _
 by_cases hv:v=.aG
 ·subst hv
  have hl:l= []:=by
   rcases s.is with⟨h0,_⟩|⟨i,o,cp,wr,all,e,_⟩
   ·exact hl0 h0
   ·cases e
  subst hl
  simp (disch:=omega) only [vvB,Nat.reduceEqDiff,reduceCtorEq,↓reduceIte,yX,Aq,Ap,Xj,sV]
  exact aU.ret (qT0) ⟨Rws.aG _ _ _ _,Nw.refl _,.inl (by trivial)⟩
 ·have hq:∀g,aI .eql .slice v .aG g=.ok (.bool false) g:=fun g=>by
   rcases s.is with⟨_,h0|h0⟩|⟨i,o,cp,wr,all,h0,_⟩
   ·exact absurd h0 hv
   ·rw [h0];rfl
   ·rw [h0];rfl
  have c1:Nw h (h.new (.cells (.rw 55 true) [])):=Nw.new _ _
  have s1:Sl h.next.nat (h.new (.cells (.rw 55 true) [])) 6 v l.length css.flatten:=s.ch c1 (Nat.le_refl _) fun _ _ q=>q
  by_cases hl:l= []
  ·subst hl
   cases a
   have hA:bT 55 6 56 (.slice h.next 0 0 (.kn 0)) v (h.new (.cells (.rw 55 true) []))=.ok (.slice h.next 0 0 (.kn 0)) (h.new (.cells (.rw 55 true) [])):=UM s1
   simp (disch:=omega) only [vvB,Nat.reduceEqDiff,reduceCtorEq,↓reduceIte,yX,Aq,Ap,Jk,hq,sQ,hA]
   exact aU.ret (qT0) ⟨Rws.zero (Nat.le_refl _),c1,.inl (by trivial)⟩
  ·have hpos:0<l.length:=List.length_pos_iff.2 hl
   have hA:bT 55 6 56 (.slice h.next 0 0 (.kn 0)) v (h.new (.cells (.rw 55 true) []))=_:=Ii s1 hpos (p:=h.next) (wr:=.rw 55 true) (cs0:= []) (by rw [dD];rfl) hs
   simp (disch:=omega) only [vvB,Nat.reduceEqDiff,reduceCtorEq,↓reduceIte,yX,Aq,Ap,Jk,hq,sQ,hA]
   have ow:dA h.next.nat (fun _=>False) (flat c) 55 6 ((h.new (.cells (.rw 55 true) [])).new (.cells (.rw 55 false) css.flatten)) (.slice (h.new (.cells (.rw 55 true) [])).next 0 l.length (.un 6)) l:=
    ⟨css,a,hw,s.len,.inr ⟨_,rfl,by have:=aZ h (.cells (.rw 55 true) []);omega,by have:=aZ (h.new (.cells (.rw 55 true) [])) (.cells (.rw 55 false) css.flatten);omega,false,dD _ _⟩⟩
   exact aU.ret (qT0) ⟨ow.rows (aQ _) (fun _ _ q=>q.elim) fun _ q _=>q,c1.trans (Nw.new _ _),.inr ow⟩
theorem ard{α:Type}{P:Pos→Prop}{c:α→List V}{h:Hp}{v:V}{l:List α}(r:Rws P (flat c) 2 h v l)(hs:l.length*16≤140737488355328):
  ∃r h',yC [v] h=.ok r h'∧Rws (fun j=>h.next.nat≤j.nat) (flat c) 2 h' r l∧Nw h h'∧(l= []∨dA h.next.nat (fun _=>False) (flat c) 106 2 h' r l):=by
 obtain⟨css,a,hw,s,kk,p⟩:=r
 have hl0:l.length=0→l= []:=List.length_eq_zero_iff.1
 rw [aes]
 show aU Tryz.prog _ (fun r h'=>Rws (fun j=>h.next.nat≤j.nat) (flat c) 2 h' r l∧Nw h h'∧(l= []∨dA h.next.nat (fun _=>False) (flat c) 106 2 h' r l)) _
 by_cases hv:v=.aG
 ·subst hv
  have hl:l= []:=by
   rcases s.is with⟨h0,_⟩|⟨i,o,cp,wr,all,e,_⟩
   ·exact hl0 h0
   ·cases e
  subst hl
  simp (disch:=omega) only [vvB,Nat.reduceEqDiff,reduceCtorEq,↓reduceIte,rH,uz,uw,Pj,sV]
  exact aU.ret (qT0) ⟨Rws.aG _ _ _ _,Nw.refl _,.inl (by trivial)⟩
 ·have hq:∀g,aI .eql .slice v .aG g=.ok (.bool false) g:=fun g=>by
   rcases s.is with⟨_,h0|h0⟩|⟨i,o,cp,wr,all,h0,_⟩
   ·exact absurd h0 hv
   ·rw [h0];rfl
   ·rw [h0];rfl
  have c1:Nw h (h.new (.cells (.rw 106 true) [])):=Nw.new _ _
  have s1:Sl h.next.nat (h.new (.cells (.rw 106 true) [])) 2 v l.length css.flatten:=s.ch c1 (Nat.le_refl _) fun _ _ q=>q
  by_cases hl:l= []
  ·subst hl
   cases a
   have hA:bT 106 2 16 (.slice h.next 0 0 (.kn 0)) v (h.new (.cells (.rw 106 true) []))=.ok (.slice h.next 0 0 (.kn 0)) (h.new (.cells (.rw 106 true) [])):=UM s1
   simp (disch:=omega) only [vvB,Nat.reduceEqDiff,reduceCtorEq,↓reduceIte,rH,uz,uw,BV,hq,sQ,hA]
   exact aU.ret (qT0) ⟨Rws.zero (Nat.le_refl _),c1,.inl (by trivial)⟩
  ·have hpos:0<l.length:=List.length_pos_iff.2 hl
   have hA:bT 106 2 16 (.slice h.next 0 0 (.kn 0)) v (h.new (.cells (.rw 106 true) []))=_:=Ii s1 hpos (p:=h.next) (wr:=.rw 106 true) (cs0:= []) (by rw [dD];rfl) hs
   simp (disch:=omega) only [vvB,Nat.reduceEqDiff,reduceCtorEq,↓reduceIte,rH,uz,uw,BV,hq,sQ,hA]
   have ow:dA h.next.nat (fun _=>False) (flat c) 106 2 ((h.new (.cells (.rw 106 true) [])).new (.cells (.rw 106 false) css.flatten)) (.slice (h.new (.cells (.rw 106 true) [])).next 0 l.length (.un 2)) l:=
    ⟨css,a,hw,s.len,.inr ⟨_,rfl,by have:=aZ h (.cells (.rw 106 true) []);omega,by have:=aZ (h.new (.cells (.rw 106 true) [])) (.cells (.rw 106 false) css.flatten);omega,false,dD _ _⟩⟩
   exact aU.ret (qT0) ⟨ow.rows (aQ _) (fun _ _ q=>q.elim) fun _ q _=>q,c1.trans (Nw.new _ _),.inr ow⟩
theorem aaz{α:Type}{P:Pos→Prop}{c:α→List V}{h:Hp}{v:V}{l:List α}(r:Rws P (flat c) 1 h v l)(hs:l.length*16≤140737488355328):
  ∃r h',rQ [v] h=.ok r h'∧Rws (fun j=>h.next.nat≤j.nat) (flat c) 1 h' r l∧Nw h h'∧(l= []∨dA h.next.nat (fun _=>False) (flat c) 9 1 h' r l):=by
 obtain⟨css,a,hw,s,kk,p⟩:=r
 have hl0:l.length=0→l= []:=List.length_eq_zero_iff.1
 rw [aer]
 show aU Tryz.prog _ (fun r h'=>Rws (fun j=>h.next.nat≤j.nat) (flat c) 1 h' r l∧Nw h h'∧(l= []∨dA h.next.nat (fun _=>False) (flat c) 9 1 h' r l)) _
 by_cases hv:v=.aG
 ·subst hv
  have hl:l= []:=by
   rcases s.is with⟨h0,_⟩|⟨i,o,cp,wr,all,e,_⟩
   ·exact hl0 h0
   ·cases e
  subst hl
  simp (disch:=omega) only [vvB,Nat.reduceEqDiff,reduceCtorEq,↓reduceIte,rG,uq,uo,Ph,sV]
  exact aU.ret (qT0) ⟨Rws.aG _ _ _ _,Nw.refl _,.inl (by trivial)⟩
 ·have hq:∀g,aI .eql .slice v .aG g=.ok (.bool false) g:=fun g=>by
   rcases s.is with⟨_,h0|h0⟩|⟨i,o,cp,wr,all,h0,_⟩
   ·exact absurd h0 hv
   ·rw [h0];rfl
   ·rw [h0];rfl
  have c1:Nw h (h.new (.cells (.rw 9 true) [])):=Nw.new _ _
  have s1:Sl h.next.nat (h.new (.cells (.rw 9 true) [])) 1 v l.length css.flatten:=s.ch c1 (Nat.le_refl _) fun _ _ q=>q
  by_cases hl:l= []
  ·subst hl
   cases a
   have hA:bT 9 1 16 (.slice h.next 0 0 (.kn 0)) v (h.new (.cells (.rw 9 true) []))=.ok (.slice h.next 0 0 (.kn 0)) (h.new (.cells (.rw 9 true) [])):=UM s1
   simp (disch:=omega) only [vvB,Nat.reduceEqDiff,reduceCtorEq,↓reduceIte,rG,uq,uo,BU,hq,sQ,hA]
   exact aU.ret (qT0) ⟨Rws.zero (Nat.le_refl _),c1,.inl (by trivial)⟩
  ·have hpos:0<l.length:=List.length_pos_iff.2 hl
   have hA:bT 9 1 16 (.slice h.next 0 0 (.kn 0)) v (h.new (.cells (.rw 9 true) []))=_:=Ii s1 hpos (p:=h.next) (wr:=.rw 9 true) (cs0:= []) (by rw [dD];rfl) hs
   simp (disch:=omega) only [vvB,Nat.reduceEqDiff,reduceCtorEq,↓reduceIte,rG,uq,uo,BU,hq,sQ,hA]
   have ow:dA h.next.nat (fun _=>False) (flat c) 9 1 ((h.new (.cells (.rw 9 true) [])).new (.cells (.rw 9 false) css.flatten)) (.slice (h.new (.cells (.rw 9 true) [])).next 0 l.length (.un 1)) l:=
    ⟨css,a,hw,s.len,.inr ⟨_,rfl,by have:=aZ h (.cells (.rw 9 true) []);omega,by have:=aZ (h.new (.cells (.rw 9 true) [])) (.cells (.rw 9 false) css.flatten);omega,false,dD _ _⟩⟩
   exact aU.ret (qT0) ⟨ow.rows (aQ _) (fun _ _ q=>q.elim) fun _ q _=>q,c1.trans (Nw.new _ _),.inr ow⟩
theorem zV{α:Type}{P:Pos→Prop}{E:El α}{h:Hp}{v f:V}{l:List α}(r:Rws P E 6 h v l)(hE:E.Stable)(p:α→Bool)(hn:l.length≤1000000000)
  (hf:∀a cs g,a∈l→Nw h g→E P g a cs→cs.length=6→∃g',dX kD f [.agg (V.ofList cs)] g=.ok (.bool (p a)) g'∧Nw g g'):
  ∃h',kE [v,f] h=.ok (.int .i64 (iH (l.findIdx? p))) h'∧Nw h h':=by
 rw [acL]
 suffices T:aU Tryz.prog [.tmp 4] (fun r h'=>r=.int .i64 (iH (l.findIdx? p))∧Nw h h') (vV (T.set (some f) (Pos.of 1) (T.set (some v) (Pos.of 0) T.nil)) h) by
  obtain⟨r,h',e,rfl,c⟩:=T;exact⟨h',e,c⟩
 simp (disch:=omega) only [vvB,Nat.reduceEqDiff,reduceCtorEq,↓reduceIte,vV,Kq,Ko,r.len,Ku]
 refine Oc.then (dY (σ:=Unit) (n:=l.length) (pi:=8) (pn:=7) (pc:=9) [0,1] (fun _=> [v,f]) (fun k _ g=>Nw h g∧(l.take k).findIdx? p=none)
  (A:=fun fr g=>Nw h g∧l.findIdx? p=none) (B:=fun fr g=>fr.get (Pos.of 4)=some (.int .i64 (iH (l.findIdx? p)))∧Nw h g) (s:=())
  (fun fr h _ k e1 e2=>by simp only [vvB,Nat.reduceEqDiff,reduceCtorEq,↓reduceIte,J9,e1,e2]) (fun fr h k _ e1=>by simp (disch:=omega) only [vvB,Nat.reduceEqDiff,reduceCtorEq,↓reduceIte,J4,e1]) (by decide) (by rw [dS];omega) (qK0) (qK0) (by simp only [Fa,vvB,Nat.reduceEqDiff,reduceCtorEq,↓reduceIte,and_self]) ⟨Nw.refl _,by simp⟩ ?_ ?_) ?_ ?_
 ·intro k _ fr g hk f8 f7 fa hI
  obtain⟨f0,f1,-⟩:=fa
  obtain⟨c,hno⟩:=hI
  obtain⟨x,hx⟩:∃x,l[k]?=some x:=⟨_,List.getElem?_eq_getElem hk⟩
  obtain⟨i,q,cs,e1,ex,hc,hi,-,-,e3⟩:=(r.nw hE c).elt hx
  obtain⟨g',e4,c4⟩:=hf x cs g (List.mem_of_getElem? hx) c ex hc
  have e5:=e3 g rfl
  simp (disch:=omega) only [vvB,Nat.reduceEqDiff,reduceCtorEq,↓reduceIte,J8,J7,f0,f1,f8,e1,e5,e4]
  by_cases hp:p x=true
  ·simp only [vvB,Nat.reduceEqDiff,reduceCtorEq,↓reduceIte,hp,J6,f8]
   refine⟨?_,c.trans c4⟩
   simp only [vvB,Nat.reduceEqDiff,reduceCtorEq,↓reduceIte]
   rw [tZ hx hno hp];rfl
  ·have hp':p x=false:=by simpa using hp
   simp only [vvB,Nat.reduceEqDiff,reduceCtorEq,↓reduceIte,hp']
   refine⟨qK2 f8,qK2 f7,(),by simp only [Fa,vvB,Nat.reduceEqDiff,reduceCtorEq,↓reduceIte,f0,f1,and_self],c.trans c4,?_⟩
   rw [List.take_add_one,hx]
   simp [List.findIdx?_append,hno,hp']
 ·intro _ fr g fa hI
  obtain⟨c,hno⟩:=hI
  rw [List.take_length] at hno
  exact⟨c,hno⟩
 ·rintro fr g ⟨c,hno⟩
  simp only [vvB,Nat.reduceEqDiff,reduceCtorEq,↓reduceIte,JZ]
  exact aU.ret (qT0) ⟨by rw [hno];rfl,c⟩
 ·rintro fr g ⟨f4,c⟩
  exact aU.ret (qT1 f4) ⟨rfl,c⟩
theorem anS{α:Type}{P:Pos→Prop}{E:El α}{h:Hp}{v f:V}{l:List α}(r:Rws P E 1 h v l)(hE:E.Stable)(p:α→Bool)(hn:l.length≤1000000000)
  (hf:∀a x g,a∈l→Nw h g→E P g a [x]→∃g',dX qh f [x] g=.ok (.bool (p a)) g'∧Nw g g'):
  ∃h',vX [v,f] h=.ok (.int .i64 (iH (l.findIdx? p))) h'∧Nw h h':=by
 rw [acK]
 suffices T:aU Tryz.prog [.tmp 4] (fun r h'=>r=.int .i64 (iH (l.findIdx? p))∧Nw h h') (vU (T.set (some f) (Pos.of 1) (T.set (some v) (Pos.of 0) T.nil)) h) by
  obtain⟨r,h',e,rfl,c⟩:=T;exact⟨h',e,c⟩
 simp (disch:=omega) only [vvB,Nat.reduceEqDiff,reduceCtorEq,↓reduceIte,vU,JY,JX,r.len,Kt]
 refine Oc.then (dY (σ:=Unit) (n:=l.length) (pi:=8) (pn:=7) (pc:=9) [0,1] (fun _=> [v,f]) (fun k _ g=>Nw h g∧(l.take k).findIdx? p=none)
  (A:=fun fr g=>Nw h g∧l.findIdx? p=none) (B:=fun fr g=>fr.get (Pos.of 4)=some (.int .i64 (iH (l.findIdx? p)))∧Nw h g) (s:=())
  (fun fr h _ k e1 e2=>by simp only [vvB,Nat.reduceEqDiff,reduceCtorEq,↓reduceIte,JW,e1,e2]) (fun fr h k _ e1=>by simp (disch:=omega) only [vvB,Nat.reduceEqDiff,reduceCtorEq,↓reduceIte,JR,e1]) (by decide) (by rw [dS];omega) (qK0) (qK0) (by simp only [Fa,vvB,Nat.reduceEqDiff,reduceCtorEq,↓reduceIte,and_self]) ⟨Nw.refl _,by simp⟩ ?_ ?_) ?_ ?_
 ·intro k _ fr g hk f8 f7 fa hI
  obtain⟨f0,f1,-⟩:=fa
  obtain⟨c,hno⟩:=hI
  obtain⟨x,hx⟩:∃x,l[k]?=some x:=⟨_,List.getElem?_eq_getElem hk⟩
  obtain⟨i,q,cs,e1,ex,hc,hi,-,e3,-⟩:=(r.nw hE c).elt hx
  obtain⟨y,rfl⟩:=aAu hc
  obtain⟨g',e4,c4⟩:=hf x y g (List.mem_of_getElem? hx) c ex
  have e5:aF (.ptr i q) g=.ok y g:=e3 g rfl 0 y rfl
  simp (disch:=omega) only [vvB,Nat.reduceEqDiff,reduceCtorEq,↓reduceIte,JV,JU,f0,f1,f8,e1,e5,e4]
  by_cases hp:p x=true
  ·simp only [vvB,Nat.reduceEqDiff,reduceCtorEq,↓reduceIte,hp,JS,f8]
   refine⟨?_,c.trans c4⟩
   simp only [vvB,Nat.reduceEqDiff,reduceCtorEq,↓reduceIte]
   rw [tZ hx hno hp];rfl
  ·have hp':p x=false:=by simpa using hp
   simp only [vvB,Nat.reduceEqDiff,reduceCtorEq,↓reduceIte,hp']
   refine⟨qK2 f8,qK2 f7,(),by simp only [Fa,vvB,Nat.reduceEqDiff,reduceCtorEq,↓reduceIte,f0,f1,and_self],c.trans c4,?_⟩
   rw [List.take_add_one,hx]
   simp [List.findIdx?_append,hno,hp']
 ·intro _ fr g fa hI
  obtain⟨c,hno⟩:=hI
  rw [List.take_length] at hno
  exact⟨c,hno⟩
 ·rintro fr g ⟨c,hno⟩
  simp only [vvB,Nat.reduceEqDiff,reduceCtorEq,↓reduceIte,JQ]
  exact aU.ret (qT0) ⟨by rw [hno];rfl,c⟩
 ·rintro fr g ⟨f4,c⟩
  exact aU.ret (qT1 f4) ⟨rfl,c⟩
theorem afQ{α:Type}{P:Pos→Prop}{E:El α}{h:Hp}{v f:V}{l:List α}(r:Rws P E 1 h v l)(hE:E.Stable)(p:α→Bool)(hn:l.length≤1000000000)
  (hf:∀a x g,a∈l→Nw h g→E P g a [x]→∃g',dX qx f [x] g=.ok (.bool (p a)) g'∧Nw g g'):
  ∃h',qB [v,f] h=.ok (.int .i64 (iH (l.findIdx? p))) h'∧Nw h h':=by
 rw [WA]
 suffices T:aU Tryz.prog [.tmp 4] (fun r h'=>r=.int .i64 (iH (l.findIdx? p))∧Nw h h') (qy (T.set (some f) (Pos.of 1) (T.set (some v) (Pos.of 0) T.nil)) h) by
  obtain⟨r,h',e,rfl,c⟩:=T;exact⟨h',e,c⟩
 simp (disch:=omega) only [vvB,Nat.reduceEqDiff,reduceCtorEq,↓reduceIte,qy,EF,ED,r.len,EP]
 refine Oc.then (dY (σ:=Unit) (n:=l.length) (pi:=8) (pn:=7) (pc:=9) [0,1] (fun _=> [v,f]) (fun k _ g=>Nw h g∧(l.take k).findIdx? p=none)
  (A:=fun fr g=>Nw h g∧l.findIdx? p=none) (B:=fun fr g=>fr.get (Pos.of 4)=some (.int .i64 (iH (l.findIdx? p)))∧Nw h g) (s:=())
  (fun fr h _ k e1 e2=>by simp only [vvB,Nat.reduceEqDiff,reduceCtorEq,↓reduceIte,EC,e1,e2]) (fun fr h k _ e1=>by simp (disch:=omega) only [vvB,Nat.reduceEqDiff,reduceCtorEq,↓reduceIte,Eu,e1]) (by decide) (by rw [dS];omega) (qK0) (qK0) (by simp only [Fa,vvB,Nat.reduceEqDiff,reduceCtorEq,↓reduceIte,and_self]) ⟨Nw.refl _,by simp⟩ ?_ ?_) ?_ ?_
 ·intro k _ fr g hk f8 f7 fa hI
  obtain⟨f0,f1,-⟩:=fa
  obtain⟨c,hno⟩:=hI
  obtain⟨x,hx⟩:∃x,l[k]?=some x:=⟨_,List.getElem?_eq_getElem hk⟩
  obtain⟨i,q,cs,e1,ex,hc,hi,-,e3,-⟩:=(r.nw hE c).elt hx
  obtain⟨y,rfl⟩:=aAu hc
  obtain⟨g',e4,c4⟩:=hf x y g (List.mem_of_getElem? hx) c ex
  have e5:aF (.ptr i q) g=.ok y g:=e3 g rfl 0 y rfl
  simp (disch:=omega) only [vvB,Nat.reduceEqDiff,reduceCtorEq,↓reduceIte,Ez,Ey,f0,f1,f8,e1,e5,e4]
  by_cases hp:p x=true
  ·simp only [vvB,Nat.reduceEqDiff,reduceCtorEq,↓reduceIte,hp,Ew,f8]
   refine⟨?_,c.trans c4⟩
   simp only [vvB,Nat.reduceEqDiff,reduceCtorEq,↓reduceIte]
   rw [tZ hx hno hp];rfl
  ·have hp':p x=false:=by simpa using hp
   simp only [vvB,Nat.reduceEqDiff,reduceCtorEq,↓reduceIte,hp']
   refine⟨qK2 f8,qK2 f7,(),by simp only [Fa,vvB,Nat.reduceEqDiff,reduceCtorEq,↓reduceIte,f0,f1,and_self],c.trans c4,?_⟩
   rw [List.take_add_one,hx]
   simp [List.findIdx?_append,hno,hp']
 ·intro _ fr g fa hI
  obtain⟨c,hno⟩:=hI
  rw [List.take_length] at hno
  exact⟨c,hno⟩
 ·rintro fr g ⟨c,hno⟩
  simp only [vvB,Nat.reduceEqDiff,reduceCtorEq,↓reduceIte,Et]
  exact aU.ret (qT0) ⟨by rw [hno];rfl,c⟩
 ·rintro fr g ⟨f4,c⟩
  exact aU.ret (qT1 f4) ⟨rfl,c⟩
theorem P6{α:Type}{P:Pos→Prop}{E:El α}{h:Hp}{v f:V}{l:List α}(r:Rws P E 1 h v l)(hE:E.Stable)(p:α→Bool)(hn:l.length≤1000000000)
  (hf:∀a x g,a∈l→Nw h g→E P g a [x]→∃g',dX qh f [x] g=.ok (.bool (p a)) g'∧Nw g g'):
  ∃h',jm [v,f] h=.ok (.bool (l.any p)) h'∧Nw h h':=by
 obtain⟨h1,e1,c1⟩:=anS r hE p hn hf
 rw [WB]
 simp (disch:=omega) only [vvB,Nat.reduceEqDiff,reduceCtorEq,↓reduceIte,yt,EH,EG,e1]
 exact⟨h1,by simp only [aT,bD,vvB,Nat.reduceEqDiff,reduceCtorEq,↓reduceIte,bF];rw [KE],c1⟩
theorem ahr{α:Type}{P:Pos→Prop}{E:El α}{h:Hp}{v f:V}{l:List α}(r:Rws P E 6 h v l)(hE:E.Stable)(p:α→Bool)(hn:l.length≤1000000000)
  (hf:∀a cs g,a∈l→Nw h g→E P g a cs→cs.length=6→∃g',dX kD f [.agg (V.ofList cs)] g=.ok (.bool (p a)) g'∧Nw g g'):
  ∃h',mF [v,f] h=.ok (.bool (l.any p)) h'∧Nw h h':=by
 obtain⟨h1,e1,c1⟩:=zV r hE p hn hf
 rw [WC]
 simp (disch:=omega) only [vvB,Nat.reduceEqDiff,reduceCtorEq,↓reduceIte,yu,EJ,EI,e1]
 exact⟨h1,by simp only [aT,bD,vvB,Nat.reduceEqDiff,reduceCtorEq,↓reduceIte,bF];rw [KE],c1⟩
theorem aay{α:Type}{P:Pos→Prop}{E:El α}{h:Hp}{v f:V}{l:List α}(r:Rws P E 1 h v l)(hE:E.Stable)(p:α→Bool)(hn:l.length≤1000000000)
  (hf:∀a x g,a∈l→Nw h g→E P g a [x]→∃g',dX qx f [x] g=.ok (.bool (p a)) g'∧Nw g g'):
  ∃h',nG [v,f] h=.ok (.bool (l.any p)) h'∧Nw h h':=by
 obtain⟨h1,e1,c1⟩:=afQ r hE p hn hf
 rw [Rl]
 simp (disch:=omega) only [vvB,Nat.reduceEqDiff,reduceCtorEq,↓reduceIte,sO,Aj,Ai,e1]
 exact⟨h1,by simp only [aT,bD,vvB,Nat.reduceEqDiff,reduceCtorEq,↓reduceIte,bF];rw [KE],c1⟩
theorem atC(x:Int)(h:Hp):mZ [iV x] h=.ok (.bool false) h:=by
 rw [Wu]
 simp only [vvB,Nat.reduceEqDiff,reduceCtorEq,↓reduceIte,FB,Jq,Jp,decide_false,not_true]
 simp only [aT,bD,vvB,Nat.reduceEqDiff,reduceCtorEq,↓reduceIte,bF]
theorem ahs(x y:Int)(h:Hp):JK [iV x,iV y] h=.ok (.bool (ltI x y)) h:=by
 rw [apv]
 simp only [vvB,Nat.reduceEqDiff,reduceCtorEq,↓reduceIte,VZ,aae,aad,atC]
 simp only [aT,bD,vvB,Nat.reduceEqDiff,reduceCtorEq,↓reduceIte,bF]<;>rfl
theorem aeh{h:Hp}{i:Pos}{f:Bool}{l:List Int}(k0:Kn h i (.cells (.rw 3 f) (l.map iV)))(hn:l.length≤1000):
  ∃u h',gZ [.slice i 0 l.length (.un 1),.int .i64 0,.int .i64 (l.length:Int)] h=.ok u h'∧Kn h' i (.cells (.rw 3 f) ((iP ltI l.length l).map iV))∧Ch (fun j=>j=i) h h':=by
 rw [sH]
 suffices T:aU Tryz.prog [] (fun u h'=>Kn h' i (.cells (.rw 3 f) ((iP ltI l.length l).map iV))∧Ch (fun j=>j=i) h h') (fU (T.set (some (.int .i64 (l.length:Int))) (Pos.of 2) (T.set (some (.int .i64 0)) (Pos.of 1) (T.set (some (.slice i 0 l.length (.un 1))) (Pos.of 0) T.nil))) h) by
  obtain⟨u,h',e,q⟩:=T;exact⟨u,h',e,q⟩
 by_cases hz:l.length=0
 ·simp (disch:=omega) only [vvB,Nat.reduceEqDiff,reduceCtorEq,↓reduceIte,fU,jD]
  refine Oc.out (dR (n:=0) (fun m fr g=>fr.get (Pos.of 6)=some (.int .i64 1)∧fr.get (Pos.of 2)=some (.int .i64 (l.length:Int))∧g=h) (A:=fun fr g=>g=h) (B:=fun _ _=>False) (by rw [dS];omega) ⟨qK1,qK0,rfl⟩ ?_) ?_ ?_
  ·rintro m fr g ⟨f6,f2,rfl⟩
   simp (disch:=omega) only [vvB,Nat.reduceEqDiff,reduceCtorEq,↓reduceIte,iL,iK,f6,f2]
   exact⟨rfl,rfl⟩
  ·rintro fr g rfl
   refine aU.nor (qT0) ⟨?_,Ch.refl _ _⟩
   rw [hz];exact k0
  ·intro fr g q;exact q.elim
 have L:∀{g:Hp} {m:List Int} {j:Nat} {x:Int},Kn g i (.cells (.rw 3 f) (m.map iV))→m[j]?=some x→aF (.ptr i j) g=.ok (iV x) g:=fun k e=>k.ld (by rw [List.getElem?_map,e];rfl)
 have St:∀{g:Hp} {m:List Int} {j:Nat} (x:Int),Kn g i (.cells (.rw 3 f) (m.map iV))→j<m.length→aO 1 (.ptr i j) (iV x) g=.ok V.undef (g.put i (some (.cells (.rw 3 f) ((m.set j x).map iV)))):=fun{g m j} x k e=>by
  rw [k.st ⟨rfl,rfl⟩ (by rw [List.length_map];exact e),List.map_set]
 have Ix:∀(g:Hp) (j:Nat),j<l.length→bU 1 (.slice i 0 l.length (.un 1)) (.int .i64 (j:Int)) g=.ok (.ptr i j) g:=fun g j e=>by rw [zl e,Nat.zero_add,Nat.mul_one]
 simp (disch:=omega) only [vvB,Nat.reduceEqDiff,reduceCtorEq,↓reduceIte,fU,jD]
 refine Oc.out (dR (n:=l.length - 1) (fun m fr g=>∃k:Nat,1≤k∧k+m=l.length∧fr.get (Pos.of 6)=some (.int .i64 (k:Int))∧fr.get (Pos.of 2)=some (.int .i64 (l.length:Int))∧fr.get (Pos.of 1)=some (.int .i64 0)∧fr.get (Pos.of 0)=some (.slice i 0 l.length (.un 1))∧
   Kn g i (.cells (.rw 3 f) ((iP ltI k l).map iV))∧Ch (fun j=>j=i) h g) (A:=fun fr g=>Kn g i (.cells (.rw 3 f) ((iP ltI l.length l).map iV))∧Ch (fun j=>j=i) h g) (B:=fun _ _=>False) (by rw [dS];omega) ?_ ?_) ?_ ?_
 ·exact⟨1,by omega,by omega,qK1,qK0,qK0,qK0,k0,Ch.refl _ _⟩
 ·rintro m fr g ⟨k,h1,hk,f6,f2,f1,f0,kg,cg⟩
  by_cases hm:m=0
  ·simp (disch:=omega) only [vvB,Nat.reduceEqDiff,reduceCtorEq,↓reduceIte,iL,iK,f6,f2]
   rw [show k=l.length by omega] at kg
   exact⟨rfl,kg,cg⟩
  simp (disch:=omega) only [vvB,Nat.reduceEqDiff,reduceCtorEq,↓reduceIte,iL,iK,um,f6,f2]
  refine Oc.out (Q:=fun o=>LS _ _ _ _ (nC (wF 1 o) lW)) (dR (n:=k) (fun j fr g=>∃t:List Int,t.length=l.length∧abf ltI j t=iP ltI (k+1) l∧fr.get (Pos.of 7)=some (.int .i64 (j:Int))∧fr.get (Pos.of 6)=some (.int .i64 (k:Int))∧fr.get (Pos.of 2)=some (.int .i64 (l.length:Int))∧fr.get (Pos.of 1)=some (.int .i64 0)∧fr.get (Pos.of 0)=some (.slice i 0 l.length (.un 1))∧
   Kn g i (.cells (.rw 3 f) (t.map iV))∧Ch (fun j=>j=i) h g∧j<l.length) (A:=fun fr g=>fr.get (Pos.of 6)=some (.int .i64 (k:Int))∧fr.get (Pos.of 2)=some (.int .i64 (l.length:Int))∧fr.get (Pos.of 1)=some (.int .i64 0)∧fr.get (Pos.of 0)=some (.slice i 0 l.length (.un 1))∧Kn g i (.cells (.rw 3 f) ((iP ltI (k+1) l).map iV))∧Ch (fun j=>j=i) h g) (B:=fun _ _=>False) (by rw [dS];omega) ?_ ?_) ?_ ?_
  ·exact⟨iP ltI k l,Dq _ _ _,rfl,qK0,qK2 f6,qK2 f2,qK2 f1,qK2 f0,kg,cg,by omega⟩
  ·rintro j fr g ⟨t,ht,hb,f7,f6,f2,f1,f0,kg,cg,hj⟩
   cases j with
   |zero=>
    simp (disch:=omega) only [vvB,Nat.reduceEqDiff,reduceCtorEq,↓reduceIte,jF,jC,f7,f1,Int.natCast_zero]
    exact⟨rfl,qK2 f6,qK2 f2,qK2 f1,qK2 f0,by rw [←hb];exact kg,cg⟩
   |succ j=>
    obtain⟨x,hx⟩:∃x,t[j+1]?=some x:=⟨_,List.getElem?_eq_getElem (by omega)⟩
    obtain⟨y,hy⟩:∃y,t[j]?=some y:=⟨_,List.getElem?_eq_getElem (by omega)⟩
    have hcast:((j+1:Nat):Int) - 1=(j:Int):=by omega
    have I1:=fun g=>Ix g (j+1) hj
    have I0:=fun g=>Ix g j (by omega)
    have L1:=L kg hx
    have L0:=L kg hy
    unfold abf at hb
    rw [hx,hy] at hb
    by_cases hlt:ltI x y=true
    ·obtain⟨g1,hg1⟩:∃g1,g1=g.put i (some (.cells (.rw 3 f) ((t.set (j+1) y).map iV))):=⟨_,rfl⟩
     have S1:=St (j:=j+1) y kg (by omega)
     rw [←hg1] at S1
     have k1:Kn g1 i (.cells (.rw 3 f) ((t.set (j+1) y).map iV)):=by rw [hg1];exact kg.put _
     have c1:Ch (fun j=>j=i) g g1:=by rw [hg1];exact Ch.put _ _ rfl
     have S2:=St (j:=j) x k1 (by simp;omega)
     simp (disch:=omega) only [vvB,Nat.reduceEqDiff,reduceCtorEq,↓reduceIte,jF,jC,uj,uh,f7,f1,f0,hcast,I1,I0,L1,L0,ahs,hlt,S1,S2]
     simp only [hlt] at hb
     exact⟨j,by omega,(t.set (j+1) y).set j x,by simp [ht],hb,qK0,qK2 f6,qK2 f2,qK2 f1,qK2 f0,k1.put _,(cg.trans c1 fun _ _ q=>q).trans (Ch.put (S:=fun j=>j=i) _ _ rfl) fun _ _ q=>q,by omega⟩
    ·have hlf:ltI x y=false:=by simpa using hlt
     simp (disch:=omega) only [vvB,Nat.reduceEqDiff,reduceCtorEq,↓reduceIte,jF,jC,f7,f1,f0,hcast,I1,I0,L1,L0,ahs,hlf]
     simp only [hlf] at hb
     exact⟨rfl,qK2 f6,qK2 f2,qK2 f1,qK2 f0,by rw [←hb];exact kg,cg⟩
  ·rintro fr g ⟨f6,f2,f1,f0,kg,cg⟩
   simp (disch:=omega) only [vvB,Nat.reduceEqDiff,reduceCtorEq,↓reduceIte,lW,f6]
   exact⟨m - 1,by omega,k+1,by omega,by omega,qK1,qK2 f2,qK2 f1,qK2 f0,kg,cg⟩
  ·intro fr g q;exact q.elim
 ·rintro fr g ⟨kg,cg⟩
  exact aU.nor (qT0) ⟨kg,cg⟩
 ·intro fr g q;exact q.elim
theorem aiF{h h':Hp}{v u:V}{n:Nat}(hl:aY 2 v h=.ok (.int .i64 (n:Int)) h)(hn:n≤12)(e:gZ [v,.int .i64 0,.int .i64 (n:Int)] h=.ok u h'):oN [v] h=.ok V.undef h':=by
 obtain⟨k,ek,-⟩:=XZ h (n:=n) (by omega)
 have cu:kU .u64 (.int .i64 (n:Int)) h=.ok (.int .u64 (n:Int)) h:=aku (by omega) (by omega)
 have pd:∃u',oC [v,.int .i64 0,.int .i64 (n:Int),.int .i64 k] h=.ok u' h':=by
  rw [TF]
  suffices T:aU Tryz.prog [] (fun u g=>g=h') (oz (T.set (some (.int .i64 k)) (Pos.of 3) (T.set (some (.int .i64 (n:Int))) (Pos.of 2) (T.set (some (.int .i64 0)) (Pos.of 1) (T.set (some v) (Pos.of 0) T.nil)))) h) by
   obtain⟨u,g,e2,rfl⟩:=T;exact⟨u,e2⟩
  simp (disch:=omega) only [vvB,Nat.reduceEqDiff,reduceCtorEq,↓reduceIte,oz,BO,BN]
  refine Oc.out (dR (n:=0) (fun m fr g=>fr.get (Pos.of 0)=some v∧fr.get (Pos.of 1)=some (.int .i64 0)∧fr.get (Pos.of 2)=some (.int .i64 (n:Int))∧g=h) (A:=fun _ _=>False) (B:=fun fr g=>g=h') (by rw [dS];omega) ⟨qK0,qK0,qK0,rfl⟩ ?_) ?_ ?_
  ·rintro m fr g ⟨f0,f1,f2,rfl⟩
   simp (disch:=omega) only [vvB,Nat.reduceEqDiff,reduceCtorEq,↓reduceIte,CV,BM,BL,BK,f0,f1,f2,Int.sub_zero,e]
   rfl
  ·intro fr g q;exact q.elim
  ·rintro fr g rfl
   exact aU.ret (qT0) rfl
 obtain⟨u',ep⟩:=pd
 rw [apu]
 simp (disch:=omega) only [vvB,Nat.reduceEqDiff,reduceCtorEq,↓reduceIte,VY,Z8,Z7,hl,cu,ek,ep]
 rfl
theorem aiG{h:Hp}{v:V}(hl:aY 2 v h=.ok (.int .i64 0) h):oN [v] h=.ok V.undef h:=by
 have key:∃u,gZ [v,.int .i64 0,.int .i64 ((0:Nat):Int)] h=.ok u h:=by
  rw [sH]
  suffices T:aU Tryz.prog [] (fun u h'=>h'=h) (fU (T.set (some (.int .i64 ((0:Nat):Int))) (Pos.of 2) (T.set (some (.int .i64 0)) (Pos.of 1) (T.set (some v) (Pos.of 0) T.nil))) h) by
   obtain⟨u,h',e,rfl⟩:=T;exact⟨u,e⟩
  simp (disch:=omega) only [vvB,Nat.reduceEqDiff,reduceCtorEq,↓reduceIte,fU,jD]
  refine Oc.out (dR (n:=0) (fun m fr g=>fr.get (Pos.of 6)=some (.int .i64 1)∧fr.get (Pos.of 2)=some (.int .i64 ((0:Nat):Int))∧g=h) (A:=fun fr g=>g=h) (B:=fun _ _=>False) (by rw [dS];omega) ⟨qK1,qK0,rfl⟩ ?_) ?_ ?_
  ·rintro m fr g ⟨f6,f2,rfl⟩
   simp (disch:=omega) only [vvB,Nat.reduceEqDiff,reduceCtorEq,↓reduceIte,iL,iK,f6,f2]
   exact⟨rfl,rfl⟩
  ·rintro fr g rfl
   exact aU.nor (qT0) rfl
  ·intro fr g q;exact q.elim
 obtain⟨u,e⟩:=key
 exact aiF (n:=0) hl (Nat.zero_le _) e
theorem anQ{h:Hp}{b:Nat}{P:Pos→Prop}{v:V}{l:List Int}(r:dA b P (flat iD) 3 1 h v l)(hn:l.length≤12):
  ∃h',oN [v] h=.ok V.undef h'∧dA b P (flat iD) 3 1 h' v (iP ltI l.length l)∧Ch (fun j=>aX v=some j) h h':=by
 have hl:=r.len h
 by_cases hz:l= []
 ·subst hz
  exact⟨h,aiG hl,r,Ch.refl _ _⟩
 ·obtain⟨i,f,rfl,hb,k0⟩:=r.open hz
  have e1:(l.map iD).flatten=l.map iV:=aaZ l
  rw [e1] at k0
  obtain⟨u,h',e,k1,c1⟩:=aeh k0 (by omega)
  refine⟨h',aiF hl hn e,?_,c1.mono fun j _ q=>by rw [q];rfl⟩
  have:=dA.mk (P:=P) (b:=b) (c:=iD) (w:=1) (el:=3) (f:=f) (l:=iP ltI l.length l) (fun _=>rfl) hb (by rw [show((iP ltI l.length l).map iD).flatten=(iP ltI l.length l).map iV from aaZ _];exact k1)
  rw [Dq] at this
  exact this
theorem aef{h:Hp}{v:V}{P:Pos→Prop}{E:El Int}{l:List Int}(r:Rws P E 1 h v l)(hn:l.length≤1):pz [v] h=.ok v h:=by
 rw [PU]
 simp (disch:=omega) only [vvB,Nat.reduceEqDiff,reduceCtorEq,↓reduceIte,uT,Ea,D9,RJ,r.len]
 simp only [aT,bD,vvB,Nat.reduceEqDiff,reduceCtorEq,↓reduceIte,bF]<;>rfl
theorem atB{h:Hp}{v:V}{P:Pos→Prop}{l:List Int}(r:Rws P (flat iD) 1 h v l)(hl:l.length≤1000)(hn:∀(k:Nat) x y,l[k]?=some x→l[k+1]?=some y→x≠y):pz [v] h=.ok v h:=by
 by_cases h1:l.length≤1
 ·exact aef r h1
 rw [PU]
 suffices T:aU Tryz.prog [.tmp 2] (fun w h'=>w=v∧h'=h) (uT (T.set (some v) (Pos.of 0) T.nil) h) by
  obtain⟨w,h',e,rfl,rfl⟩:=T;exact e
 simp (disch:=omega) only [vvB,Nat.reduceEqDiff,reduceCtorEq,↓reduceIte,uT,Ea,D9,RI,r.len]
 refine Oc.then (dR (n:=l.length - 1) (fun m fr g=>∃k:Nat,k+1+m=l.length∧fr.get (Pos.of 0)=some v∧fr.get (Pos.of 3)=some (.int .i64 ((k:Int)+1))∧g=h) (A:=fun fr g=>fr.get (Pos.of 0)=some v∧g=h) (B:=fun _ _=>False) (by rw [dS];omega) ⟨0,by omega,qK0,qK1,rfl⟩ ?_) ?_ ?_
 ·rintro m fr g ⟨k,hk,f0,f3,rfl⟩
  by_cases hm:m=0
  ·simp (disch:=omega) only [vvB,Nat.reduceEqDiff,reduceCtorEq,↓reduceIte,Ee,D8,f0,f3,r.len]
   exact⟨rfl,qK2 f0,rfl⟩
  ·obtain⟨x,hx⟩:∃x,l[k]?=some x:=⟨_,List.getElem?_eq_getElem (by omega)⟩
   obtain⟨y,hy⟩:∃y,l[k+1]?=some y:=⟨_,List.getElem?_eq_getElem (by omega)⟩
   obtain⟨i,q,cs,e1,ex,-,-,-,e2,-⟩:=r.elt hx
   obtain rfl:cs=iD x:=ex
   obtain⟨i',q',cs',e1',ey,-,-,-,e2',-⟩:=r.elt hy
   obtain rfl:cs'=iD y:=ey
   have L1:aF (.ptr i q) g=.ok (iV x) g:=e2 g rfl 0 _ rfl
   have L2:aF (.ptr i' q') g=.ok (iV y) g:=e2' g rfl 0 _ rfl
   have I2:∀g,bU 1 v (.int .i64 ((k:Int)+1)) g=.ok (.ptr i' q') g:=fun g=>e1' g
   have hc:(k:Int)+1 - 1=(k:Int):=by omega
   have hne:(y=x)=False:=eq_false fun e=>hn k x y hx hy e.symm
   simp (disch:=omega) only [vvB,Nat.reduceEqDiff,reduceCtorEq,↓reduceIte,Ee,D8,RG,RH,f0,f3,r.len,I2,L2,hc,e1,L1,hne]
   exact⟨m - 1,by omega,k+1,by omega,qK2 f0,qK1,rfl⟩
 ·rintro fr g ⟨f0,rfl⟩
  simp (disch:=omega) only [vvB,Nat.reduceEqDiff,reduceCtorEq,↓reduceIte,Pg,f0]
  exact aU.ret (qT0) ⟨rfl,rfl⟩
 ·intro fr g q;exact q.elim
theorem amj(x:(List Nat))(h:Hp):rU [V.str x] h=.ok (.bool false) h:=by
 rw [aev]
 simp only [vvB,Nat.reduceEqDiff,reduceCtorEq,↓reduceIte,Gf,Px,Pv,decide_false,not_true]
 simp only [aT,bD,vvB,Nat.reduceEqDiff,reduceCtorEq,↓reduceIte,bF]
theorem XM(x y:(List Nat))(h:Hp):AL [V.str x,V.str y] h=.ok (.bool (lF x y)) h:=by
 rw [aho]
 simp only [vvB,Nat.reduceEqDiff,reduceCtorEq,↓reduceIte,Jw,RP,RN,amj,au5]
 simp only [aT,bD,vvB,Nat.reduceEqDiff,reduceCtorEq,↓reduceIte,bF]<;>rfl
theorem X3{h:Hp}{i:Pos}{f:Bool}{l:List (List Nat)}(k0:Kn h i (.cells (.rw 9 f) (l.map V.str)))(hn:l.length≤1000):
  ∃u h',fZ [.slice i 0 l.length (.un 1),.int .i64 0,.int .i64 (l.length:Int)] h=.ok u h'∧Kn h' i (.cells (.rw 9 f) ((iP lF l.length l).map V.str))∧Ch (fun j=>j=i) h h':=by
 rw [qj]
 suffices T:aU Tryz.prog [] (fun u h'=>Kn h' i (.cells (.rw 9 f) ((iP lF l.length l).map V.str))∧Ch (fun j=>j=i) h h') (fJ (T.set (some (.int .i64 (l.length:Int))) (Pos.of 2) (T.set (some (.int .i64 0)) (Pos.of 1) (T.set (some (.slice i 0 l.length (.un 1))) (Pos.of 0) T.nil))) h) by
  obtain⟨u,h',e,q⟩:=T;exact⟨u,h',e,q⟩
 by_cases hz:l.length=0
 ·simp (disch:=omega) only [vvB,Nat.reduceEqDiff,reduceCtorEq,↓reduceIte,fJ,jd]
  refine Oc.out (dR (n:=0) (fun m fr g=>fr.get (Pos.of 6)=some (.int .i64 1)∧fr.get (Pos.of 2)=some (.int .i64 (l.length:Int))∧g=h) (A:=fun fr g=>g=h) (B:=fun _ _=>False) (by rw [dS];omega) ⟨qK1,qK0,rfl⟩ ?_) ?_ ?_
  ·rintro m fr g ⟨f6,f2,rfl⟩
   simp (disch:=omega) only [vvB,Nat.reduceEqDiff,reduceCtorEq,↓reduceIte,gW,gV,f6,f2]
   exact⟨rfl,rfl⟩
  ·rintro fr g rfl
   refine aU.nor (qT0) ⟨?_,Ch.refl _ _⟩
   rw [hz];exact k0
  ·intro fr g q;exact q.elim
 have L:∀{g:Hp} {m:List (List Nat)} {j:Nat} {x:(List Nat)},Kn g i (.cells (.rw 9 f) (m.map V.str))→m[j]?=some x→aF (.ptr i j) g=.ok (V.str x) g:=fun k e=>k.ld (by rw [List.getElem?_map,e];rfl)
 have St:∀{g:Hp} {m:List (List Nat)} {j:Nat} (x:(List Nat)),Kn g i (.cells (.rw 9 f) (m.map V.str))→j<m.length→aO 1 (.ptr i j) (V.str x) g=.ok V.undef (g.put i (some (.cells (.rw 9 f) ((m.set j x).map V.str)))):=fun{g m j} x k e=>by
  rw [k.st ⟨rfl,rfl⟩ (by rw [List.length_map];exact e),List.map_set]
 have Ix:∀(g:Hp) (j:Nat),j<l.length→bU 1 (.slice i 0 l.length (.un 1)) (.int .i64 (j:Int)) g=.ok (.ptr i j) g:=fun g j e=>by rw [zl e,Nat.zero_add,Nat.mul_one]
 simp (disch:=omega) only [vvB,Nat.reduceEqDiff,reduceCtorEq,↓reduceIte,fJ,jd]
 refine Oc.out (dR (n:=l.length - 1) (fun m fr g=>∃k:Nat,1≤k∧k+m=l.length∧fr.get (Pos.of 6)=some (.int .i64 (k:Int))∧fr.get (Pos.of 2)=some (.int .i64 (l.length:Int))∧fr.get (Pos.of 1)=some (.int .i64 0)∧fr.get (Pos.of 0)=some (.slice i 0 l.length (.un 1))∧
   Kn g i (.cells (.rw 9 f) ((iP lF k l).map V.str))∧Ch (fun j=>j=i) h g) (A:=fun fr g=>Kn g i (.cells (.rw 9 f) ((iP lF l.length l).map V.str))∧Ch (fun j=>j=i) h g) (B:=fun _ _=>False) (by rw [dS];omega) ?_ ?_) ?_ ?_
 ·exact⟨1,by omega,by omega,qK1,qK0,qK0,qK0,k0,Ch.refl _ _⟩
 ·rintro m fr g ⟨k,h1,hk,f6,f2,f1,f0,kg,cg⟩
  by_cases hm:m=0
  ·simp (disch:=omega) only [vvB,Nat.reduceEqDiff,reduceCtorEq,↓reduceIte,gW,gV,f6,f2]
   rw [show k=l.length by omega] at kg
   exact⟨rfl,kg,cg⟩
  simp (disch:=omega) only [vvB,Nat.reduceEqDiff,reduceCtorEq,↓reduceIte,gW,gV,qH,f6,f2]
  refine Oc.out (Q:=fun o=>LS _ _ _ _ (nC (wF 1 o) kN)) (dR (n:=k) (fun j fr g=>∃t:List (List Nat),t.length=l.length∧abf lF j t=iP lF (k+1) l∧fr.get (Pos.of 7)=some (.int .i64 (j:Int))∧fr.get (Pos.of 6)=some (.int .i64 (k:Int))∧fr.get (Pos.of 2)=some (.int .i64 (l.length:Int))∧fr.get (Pos.of 1)=some (.int .i64 0)∧fr.get (Pos.of 0)=some (.slice i 0 l.length (.un 1))∧
   Kn g i (.cells (.rw 9 f) (t.map V.str))∧Ch (fun j=>j=i) h g∧j<l.length) (A:=fun fr g=>fr.get (Pos.of 6)=some (.int .i64 (k:Int))∧fr.get (Pos.of 2)=some (.int .i64 (l.length:Int))∧fr.get (Pos.of 1)=some (.int .i64 0)∧fr.get (Pos.of 0)=some (.slice i 0 l.length (.un 1))∧Kn g i (.cells (.rw 9 f) ((iP lF (k+1) l).map V.str))∧Ch (fun j=>j=i) h g) (B:=fun _ _=>False) (by rw [dS];omega) ?_ ?_) ?_ ?_
  ·exact⟨iP lF k l,Dq _ _ _,rfl,qK0,qK2 f6,qK2 f2,qK2 f1,qK2 f0,kg,cg,by omega⟩
  ·rintro j fr g ⟨t,ht,hb,f7,f6,f2,f1,f0,kg,cg,hj⟩
   cases j with
   |zero=>
    simp (disch:=omega) only [vvB,Nat.reduceEqDiff,reduceCtorEq,↓reduceIte,je,jc,f7,f1,Int.natCast_zero]
    exact⟨rfl,qK2 f6,qK2 f2,qK2 f1,qK2 f0,by rw [←hb];exact kg,cg⟩
   |succ j=>
    obtain⟨x,hx⟩:∃x,t[j+1]?=some x:=⟨_,List.getElem?_eq_getElem (by omega)⟩
    obtain⟨y,hy⟩:∃y,t[j]?=some y:=⟨_,List.getElem?_eq_getElem (by omega)⟩
    have hcast:((j+1:Nat):Int) - 1=(j:Int):=by omega
    have I1:=fun g=>Ix g (j+1) hj
    have I0:=fun g=>Ix g j (by omega)
    have L1:=L kg hx
    have L0:=L kg hy
    unfold abf at hb
    rw [hx,hy] at hb
    by_cases hlt:lF x y=true
    ·obtain⟨g1,hg1⟩:∃g1,g1=g.put i (some (.cells (.rw 9 f) ((t.set (j+1) y).map V.str))):=⟨_,rfl⟩
     have S1:=St (j:=j+1) y kg (by omega)
     rw [←hg1] at S1
     have k1:Kn g1 i (.cells (.rw 9 f) ((t.set (j+1) y).map V.str)):=by rw [hg1];exact kg.put _
     have c1:Ch (fun j=>j=i) g g1:=by rw [hg1];exact Ch.put _ _ rfl
     have S2:=St (j:=j) x k1 (by simp;omega)
     simp (disch:=omega) only [vvB,Nat.reduceEqDiff,reduceCtorEq,↓reduceIte,je,jc,qG,qF,f7,f1,f0,hcast,I1,I0,L1,L0,XM,hlt,S1,S2]
     simp only [hlt] at hb
     exact⟨j,by omega,(t.set (j+1) y).set j x,by simp [ht],hb,qK0,qK2 f6,qK2 f2,qK2 f1,qK2 f0,k1.put _,(cg.trans c1 fun _ _ q=>q).trans (Ch.put (S:=fun j=>j=i) _ _ rfl) fun _ _ q=>q,by omega⟩
    ·have hlf:lF x y=false:=by simpa using hlt
     simp (disch:=omega) only [vvB,Nat.reduceEqDiff,reduceCtorEq,↓reduceIte,je,jc,f7,f1,f0,hcast,I1,I0,L1,L0,XM,hlf]
     simp only [hlf] at hb
     exact⟨rfl,qK2 f6,qK2 f2,qK2 f1,qK2 f0,by rw [←hb];exact kg,cg⟩
  ·rintro fr g ⟨f6,f2,f1,f0,kg,cg⟩
   simp (disch:=omega) only [vvB,Nat.reduceEqDiff,reduceCtorEq,↓reduceIte,kN,f6]
   exact⟨m - 1,by omega,k+1,by omega,by omega,qK1,qK2 f2,qK2 f1,qK2 f0,kg,cg⟩
  ·intro fr g q;exact q.elim
 ·rintro fr g ⟨kg,cg⟩
  exact aU.nor (qT0) ⟨kg,cg⟩
 ·intro fr g q;exact q.elim
theorem Zz{h h':Hp}{v u:V}{n:Nat}(hl:aY 2 v h=.ok (.int .i64 (n:Int)) h)(hn:n≤12)(e:fZ [v,.int .i64 0,.int .i64 (n:Int)] h=.ok u h'):mr [v] h=.ok V.undef h':=by
 obtain⟨k,ek,-⟩:=XZ h (n:=n) (by omega)
 have cu:kU .u64 (.int .i64 (n:Int)) h=.ok (.int .u64 (n:Int)) h:=aku (by omega) (by omega)
 have pd:∃u',lH [v,.int .i64 0,.int .i64 (n:Int),.int .i64 k] h=.ok u' h':=by
  rw [Nh]
  suffices T:aU Tryz.prog [] (fun u g=>g=h') (lG (T.set (some (.int .i64 k)) (Pos.of 3) (T.set (some (.int .i64 (n:Int))) (Pos.of 2) (T.set (some (.int .i64 0)) (Pos.of 1) (T.set (some v) (Pos.of 0) T.nil)))) h) by
   obtain⟨u,g,e2,rfl⟩:=T;exact⟨u,e2⟩
  simp (disch:=omega) only [vvB,Nat.reduceEqDiff,reduceCtorEq,↓reduceIte,lG,wS,wR]
  refine Oc.out (dR (n:=0) (fun m fr g=>fr.get (Pos.of 0)=some v∧fr.get (Pos.of 1)=some (.int .i64 0)∧fr.get (Pos.of 2)=some (.int .i64 (n:Int))∧g=h) (A:=fun _ _=>False) (B:=fun fr g=>g=h') (by rw [dS];omega) ⟨qK0,qK0,qK0,rfl⟩ ?_) ?_ ?_
  ·rintro m fr g ⟨f0,f1,f2,rfl⟩
   simp (disch:=omega) only [vvB,Nat.reduceEqDiff,reduceCtorEq,↓reduceIte,wY,wQ,wP,wO,f0,f1,f2,Int.sub_zero,e]
   rfl
  ·intro fr g q;exact q.elim
  ·rintro fr g rfl
   exact aU.ret (qT0) rfl
 obtain⟨u',ep⟩:=pd
 rw [ahj]
 simp (disch:=omega) only [vvB,Nat.reduceEqDiff,reduceCtorEq,↓reduceIte,Jt,Ro,Rn,hl,cu,ek,ep]
 rfl
theorem ZA{h:Hp}{v:V}(hl:aY 2 v h=.ok (.int .i64 0) h):mr [v] h=.ok V.undef h:=by
 have key:∃u,fZ [v,.int .i64 0,.int .i64 ((0:Nat):Int)] h=.ok u h:=by
  rw [qj]
  suffices T:aU Tryz.prog [] (fun u h'=>h'=h) (fJ (T.set (some (.int .i64 ((0:Nat):Int))) (Pos.of 2) (T.set (some (.int .i64 0)) (Pos.of 1) (T.set (some v) (Pos.of 0) T.nil))) h) by
   obtain⟨u,h',e,rfl⟩:=T;exact⟨u,e⟩
  simp (disch:=omega) only [vvB,Nat.reduceEqDiff,reduceCtorEq,↓reduceIte,fJ,jd]
  refine Oc.out (dR (n:=0) (fun m fr g=>fr.get (Pos.of 6)=some (.int .i64 1)∧fr.get (Pos.of 2)=some (.int .i64 ((0:Nat):Int))∧g=h) (A:=fun fr g=>g=h) (B:=fun _ _=>False) (by rw [dS];omega) ⟨qK1,qK0,rfl⟩ ?_) ?_ ?_
  ·rintro m fr g ⟨f6,f2,rfl⟩
   simp (disch:=omega) only [vvB,Nat.reduceEqDiff,reduceCtorEq,↓reduceIte,gW,gV,f6,f2]
   exact⟨rfl,rfl⟩
  ·rintro fr g rfl
   exact aU.nor (qT0) rfl
  ·intro fr g q;exact q.elim
 obtain⟨u,e⟩:=key
 exact Zz (n:=0) hl (Nat.zero_le _) e
theorem as9{h:Hp}{b:Nat}{P:Pos→Prop}{v:V}{l:List (List Nat)}(r:dA b P (flat jH) 9 1 h v l)(hn:l.length≤12):
  ∃h',mr [v] h=.ok V.undef h'∧dA b P (flat jH) 9 1 h' v (iP lF l.length l)∧Ch (fun j=>aX v=some j) h h':=by
 have hl:=r.len h
 by_cases hz:l= []
 ·subst hz
  exact⟨h,ZA hl,r,Ch.refl _ _⟩
 ·obtain⟨i,f,rfl,hb,k0⟩:=r.open hz
  have e1:(l.map jH).flatten=l.map V.str:=aaZ l
  rw [e1] at k0
  obtain⟨u,h',e,k1,c1⟩:=X3 k0 (by omega)
  refine⟨h',Zz hl hn e,?_,c1.mono fun j _ q=>by rw [q];rfl⟩
  have:=dA.mk (P:=P) (b:=b) (c:=jH) (w:=1) (el:=9) (f:=f) (l:=iP lF l.length l) (fun _=>rfl) hb (by rw [show((iP lF l.length l).map jH).flatten=(iP lF l.length l).map V.str from aaZ _];exact k1)
  rw [Dq] at this
  exact this
theorem ami{h:Hp}{v:V}{P:Pos→Prop}{E:El (List Nat)}{l:List (List Nat)}(r:Rws P E 1 h v l)(hn:l.length≤1):uY [v] h=.ok v h:=by
 rw [aat]
 simp (disch:=omega) only [vvB,Nat.reduceEqDiff,reduceCtorEq,↓reduceIte,CS,Ji,Jh,Jg,r.len]
 simp only [aT,bD,vvB,Nat.reduceEqDiff,reduceCtorEq,↓reduceIte,bF]<;>rfl
def jV{α:Type}(e:FuncId→Option Fun)(P:Pos→Prop)(E:El α)(h:Hp)(f:V)(l:List α):Prop:=
 ∀(g:Hp) (i j:Nat) (x y:α) (cx cy:List V),Nw h g→i<j→l[i]?=some x→l[j]?=some y→E P g x cx→E P g y cy→cx.length=9→cy.length=9→∃g',dX e f [.agg (V.ofList cy),.agg (V.ofList cx)] g=.ok (.int .i64 1) g'∧Nw g g'
theorem aif{α:Type}{P:Pos→Prop}{E:El α}{h:Hp}{v f:V}{l:List α}(r:Rws P E 9 h v l)(hE:E.Stable)(hn:l.length≤1000)(hc:jV lY P E h f l):
  ∃u h',jG [v,.int .i64 0,.int .i64 (l.length:Int),f] h=.ok u h'∧Nw h h':=by
 rw [ER]
 suffices T:aU Tryz.prog [] (fun u h'=>Nw h h') (jE (T.set (some f) (Pos.of 3) (T.set (some (.int .i64 (l.length:Int))) (Pos.of 2) (T.set (some (.int .i64 0)) (Pos.of 1) (T.set (some v) (Pos.of 0) T.nil)))) h) by
  obtain⟨u,h',e,c⟩:=T;exact⟨u,h',e,c⟩
 simp (disch:=omega) only [vvB,Nat.reduceEqDiff,reduceCtorEq,↓reduceIte,jE,qX]
 refine Oc.out (dR (n:=l.length) (fun m fr g=>∃k:Nat,l.length≤k+m∧fr.get (Pos.of 8)=some (.int .i64 ((k:Int)+1))∧fr.get (Pos.of 3)=some f∧fr.get (Pos.of 2)=some (.int .i64 (l.length:Int))∧fr.get (Pos.of 1)=some (.int .i64 0)∧fr.get (Pos.of 0)=some v∧Nw h g∧k≤l.length) (A:=fun fr g=>Nw h g) (B:=fun _ _=>False) (by rw [dS];omega) ?_ ?_) ?_ ?_
 ·exact⟨0,by omega,qK1,qK0,qK0,qK0,qK0,Nw.refl _,by omega⟩
 ·rintro m fr g ⟨k,hk,f8,f3,f2,f1,f0,cg,hkl⟩
  by_cases hm:l.length≤k+1
  ·simp (disch:=omega) only [vvB,Nat.reduceEqDiff,reduceCtorEq,↓reduceIte,kX,kW,f8,f2]
   exact⟨rfl,cg⟩
  simp (disch:=omega) only [vvB,Nat.reduceEqDiff,reduceCtorEq,↓reduceIte,kX,kW,qW,f8,f2]
  refine Oc.out (Q:=fun o=>LS _ _ _ _ (nC (wF 1 o) kV)) (dR (n:=0) (fun j fr g'=>fr.get (Pos.of 9)=some (.int .i64 ((k:Int)+1))∧fr.get (Pos.of 8)=some (.int .i64 ((k:Int)+1))∧fr.get (Pos.of 3)=some f∧fr.get (Pos.of 2)=some (.int .i64 (l.length:Int))∧fr.get (Pos.of 1)=some (.int .i64 0)∧fr.get (Pos.of 0)=some v∧g'=g) (A:=fun fr g=>fr.get (Pos.of 8)=some (.int .i64 ((k:Int)+1))∧fr.get (Pos.of 3)=some f∧fr.get (Pos.of 2)=some (.int .i64 (l.length:Int))∧fr.get (Pos.of 1)=some (.int .i64 0)∧fr.get (Pos.of 0)=some v∧Nw h g) (B:=fun _ _=>False) (by rw [dS];omega) ?_ ?_) ?_ ?_
  ·exact⟨qK0,qK2 f8,qK2 f3,qK2 f2,qK2 f1,qK2 f0,rfl⟩
  ·rintro j fr g' ⟨f9,f8,f3,f2,f1,f0,rfl⟩
   obtain⟨x,hx⟩:∃x,l[k]?=some x:=⟨_,List.getElem?_eq_getElem (by omega)⟩
   obtain⟨y,hy⟩:∃y,l[k+1]?=some y:=⟨_,List.getElem?_eq_getElem (by omega)⟩
   obtain⟨i,q,cx,e1,ex,lx,-,-,-,n1⟩:=(r.nw hE cg).elt hx
   obtain⟨i',q',cy,e2,ey,ly,-,-,-,n2⟩:=(r.nw hE cg).elt hy
   have n1':=n1 g' rfl
   have n2':=n2 g' rfl
   have e2':∀g,bU 9 v (.int .i64 ((k:Int)+1)) g=.ok (.ptr i' q') g:=fun g=>e2 g
   have hcast:(k:Int)+1 - 1=(k:Int):=by omega
   obtain⟨g2,e3,c3⟩:=hc g' k (k+1) x y cx cy cg (by omega) hx hy ex ey lx ly
   simp (disch:=omega) only [vvB,Nat.reduceEqDiff,reduceCtorEq,↓reduceIte,rJ,qV,f9,f1,f0,f3,e2',n2',hcast,e1,n1',e3]
   exact⟨rfl,qK2 f8,qK2 f3,qK2 f2,qK2 f1,qK2 f0,cg.trans c3⟩
  ·rintro fr g ⟨f8,f3,f2,f1,f0,cg⟩
   simp (disch:=omega) only [vvB,Nat.reduceEqDiff,reduceCtorEq,↓reduceIte,kV,f8]
   exact⟨m - 1,by omega,k+1,by omega,qK1,qK2 f3,qK2 f2,qK2 f1,qK2 f0,cg,by omega⟩
  ·intro fr g q;exact q.elim
 ·rintro fr g cg
  exact aU.nor (qT0) cg
 ·intro fr g q;exact q.elim
theorem KW{α:Type}{P:Pos→Prop}{E:El α}{h:Hp}{v f s:V}{l:List α}(r:Rws P E 9 h v l)(hE:E.Stable)(hc:jV iE P E h f l){i j:Nat}(hij:i<j)(hj:j<l.length):
  ∃h',jh [v,.int .i64 (i:Int),.int .i64 (j:Int),s,f] h=.ok (.tuple (.cons (.int .i64 (i:Int)) (.cons (.int .i64 (j:Int)) .nil))) h'∧Nw h h':=by
 obtain⟨x,hx⟩:∃x,l[i]?=some x:=⟨_,List.getElem?_eq_getElem (by omega)⟩
 obtain⟨y,hy⟩:∃y,l[j]?=some y:=⟨_,List.getElem?_eq_getElem hj⟩
 obtain⟨p,q,cx,e1,ex,lx,-,-,-,n1⟩:=r.elt hx
 obtain⟨p',q',cy,e2,ey,ly,-,-,-,n2⟩:=r.elt hy
 have n1':=n1 h rfl
 have n2':=n2 h rfl
 obtain⟨g2,e3,c3⟩:=hc h i j x y cx cy (Nw.refl _) hij hx hy ex ey lx ly
 rw [Rj]
 simp (disch:=omega) only [vvB,Nat.reduceEqDiff,reduceCtorEq,↓reduceIte,sK,zY,zX,zW,e2,n2',e1,n1',e3]
 exact⟨g2,by simp only [aT,bD,vvB,Nat.reduceEqDiff,reduceCtorEq,↓reduceIte,bF]<;>rfl,c3⟩
theorem aqH{α:Type}{P:Pos→Prop}{E:El α}{h:Hp}{v f s:V}{l:List α}(r:Rws P E 9 h v l)(hE:E.Stable)(hc:jV iE P E h f l){i j k:Nat}(hij:i<j)(hjk:j<k)(hk:k<l.length):
  ∃h',nD [v,.int .i64 (i:Int),.int .i64 (j:Int),.int .i64 (k:Int),s,f] h=.ok (.int .i64 (j:Int)) h'∧Nw h h':=by
 have gc:∀{g},Nw h g→jV iE P E g f l:=fun c g' i j x y cx cy c'=>hc g' i j x y cx cy (c.trans c')
 obtain⟨h1,e1,c1⟩:=KW (s:=s) r hE hc hij (by omega)
 obtain⟨h2,e2,c2⟩:=KW (s:=s) (r.nw hE c1) hE (gc c1) hjk hk
 obtain⟨h3,e3,c3⟩:=KW (s:=s) ((r.nw hE c1).nw hE c2) hE (gc (c1.trans c2)) hij (by omega)
 rw [Rk]
 simp (disch:=omega) only [vvB,Nat.reduceEqDiff,reduceCtorEq,↓reduceIte,sN,Ae,Ad,Ac,Aa,zZ,e1,e2,e3]
 exact⟨h3,by simp only [aT,bD,vvB,Nat.reduceEqDiff,reduceCtorEq,↓reduceIte,bF]<;>rfl,(c1.trans c2).trans c3⟩
theorem aex{α:Type}{P:Pos→Prop}{E:El α}{h:Hp}{v f:V}{l:List α}(r:Rws P E 9 h v l)(hE:E.Stable)(hc:jV iE P E h f l)(h8:8≤l.length)(h50:l.length<50):
  ∃p h',kC [v,.int .i64 0,.int .i64 (l.length:Int),f] h=.ok (.tuple (.cons p (.cons (.int .i64 1) .nil))) h'∧Nw h h':=by
 obtain⟨h1,hh1,c1,k1⟩:=mkW h (.cells (.rw fB true) [.int .i64 0])
 have gc:∀{g},Nw h g→jV iE P E g f l:=fun c g' i j x y cx cy c'=>hc g' i j x y cx cy (c.trans c')
 obtain⟨q,hq⟩:∃q:Nat,q=l.length / 4:=⟨_,rfl⟩
 have hq1:1≤q∧q*3<l.length:=by omega
 obtain⟨h2,e2,c2⟩:=aqH (s:=.ptr h.next 0) (r.nw hE c1) hE (gc c1) (i:=q*1) (j:=q*2) (k:=q*3) (by omega) (by omega) hq1.2
 have qu:∀g,aI .quo .none (.int .i64 (l.length:Int)) (.int .i64 4) g=.ok (.int .i64 (q:Int)) g:=fun g=>by
  have e:Int.tdiv (l.length:Int) 4=(q:Int):=by rw [Int.tdiv_eq_ediv_of_nonneg (by omega)];omega
  rw [au7 (by omega) (by rw [e];omega) (by rw [e];omega),e]
 have mu:∀g (n:Nat),n≤3→aI .mul .none (.int .i64 (q:Int)) (.int .i64 (n:Int)) g=.ok (.int .i64 ((q*n:Nat):Int)) g:=fun g n hn=>by
  have e:(q:Int)*(n:Int)=((q*n:Nat):Int):=by simp
  have:q*n≤q*3:=Nat.mul_le_mul_left _ hn
  rw [akw (by rw [e];omega) (by rw [e];omega),e]
 have mu1:=fun g=>mu g 1 (by omega)
 have mu2:=fun g=>mu g 2 (by omega)
 have mu3:=fun g=>mu g 3 (by omega)
 simp only [Int.natCast_one,show((2:Nat):Int)=2 from rfl,show((3:Nat):Int)=3 from rfl] at mu1 mu2 mu3
 have L2:=(k1.nw c2).ld (q:=0) (x:=.int .i64 0) rfl
 rw [Hu]
 simp (disch:=omega) only [vvB,Nat.reduceEqDiff,reduceCtorEq,↓reduceIte,nS,uM,uK,uJ,uI,uH,uG,uF,uD,sG,sF,sD,su,Int.sub_zero,Int.zero_add,←hh1,qu,mu1,mu2,mu3,e2,L2]
 exact⟨_,h2,by simp only [aT,bD,vvB,Nat.reduceEqDiff,reduceCtorEq,↓reduceIte,bF]<;>rfl,c1.trans c2⟩
theorem anR{α:Type}{P:Pos→Prop}{E:El α}{h:Hp}{v f:V}{l:List α}(r:Rws P E 9 h v l)(hE:E.Stable)(hn:l.length≤1000)(h1:1≤l.length)(hc:jV jJ P E h f l):
  ∃h',iC [v,.int .i64 0,.int .i64 (l.length:Int),f] h=.ok (.bool true) h'∧Nw h h':=by
 rw [yx]
 suffices T:aU Tryz.prog [.tmp 8] (fun r h'=>r=.bool true∧Nw h h') (iy (T.set (some f) (Pos.of 3) (T.set (some (.int .i64 (l.length:Int))) (Pos.of 2) (T.set (some (.int .i64 0)) (Pos.of 1) (T.set (some v) (Pos.of 0) T.nil)))) h) by
  obtain⟨r,h',e,rfl,c⟩:=T;exact⟨h',e,c⟩
 simp (disch:=omega) only [vvB,Nat.reduceEqDiff,reduceCtorEq,↓reduceIte,iy,mX,mW,mV]
 refine Oc.then (dR (n:=0) (fun m fr g=>fr.get (Pos.of 10)=some (.int .i64 0)∧fr.get (Pos.of 9)=some (.int .i64 1)∧fr.get (Pos.of 3)=some f∧fr.get (Pos.of 2)=some (.int .i64 (l.length:Int))∧fr.get (Pos.of 0)=some v∧g=h) (A:=fun _ _=>False) (B:=fun fr g=>fr.get (Pos.of 8)=some (.bool true)∧Nw h g) (by rw [dS];omega) ⟨qK0,qK1,qK0,qK0,qK0,rfl⟩ ?_) ?_ ?_
 ·rintro m fr g ⟨f10,f9,f3,f2,f0,rfl⟩
  simp (disch:=omega) only [vvB,Nat.reduceEqDiff,reduceCtorEq,↓reduceIte,mY,mQ,f10]
  refine Oc.out (Q:=fun o=>LS _ _ _ _ (nC (wF 1 (nC o _)) mP)) (dR (n:=l.length) (fun m fr g'=>∃k:Nat,k+1+m=l.length+1∧fr.get (Pos.of 9)=some (.int .i64 ((k:Int)+1))∧fr.get (Pos.of 3)=some f∧fr.get (Pos.of 2)=some (.int .i64 (l.length:Int))∧fr.get (Pos.of 0)=some v∧Nw g g'∧k+1≤l.length) (A:=fun fr g'=>fr.get (Pos.of 9)=some (.int .i64 (l.length:Int))∧fr.get (Pos.of 2)=some (.int .i64 (l.length:Int))∧Nw g g') (B:=fun _ _=>False) (by rw [dS];omega) ⟨0,by omega,qK3 f9,qK2 f3,qK2 f2,qK2 f0,Nw.refl _,h1⟩ ?_) ?_ ?_
  ·rintro m fr g' ⟨k,hk,f9,f3,f2,f0,cg,hkl⟩
   by_cases hm:k+1=l.length
   ·have hlt:((k:Int)+1<(l.length:Int))=False:=eq_false (by omega)
    simp (disch:=omega) only [vvB,Nat.reduceEqDiff,reduceCtorEq,↓reduceIte,jq,jo,f9,f2,hlt]
    exact⟨rfl,by simp only [vvB,Nat.reduceEqDiff,reduceCtorEq,↓reduceIte,f9];rw [←hm];rfl,qK2 f2,cg⟩
   ·obtain⟨x,hx⟩:∃x,l[k]?=some x:=⟨_,List.getElem?_eq_getElem (by omega)⟩
    obtain⟨y,hy⟩:∃y,l[k+1]?=some y:=⟨_,List.getElem?_eq_getElem (by omega)⟩
    obtain⟨i,q,cx,e1,ex,lx,-,-,-,n1⟩:=(r.nw hE cg).elt hx
    obtain⟨i',q',cy,e2,ey,ly,-,-,-,n2⟩:=(r.nw hE cg).elt hy
    have n1':=n1 g' rfl
    have n2':=n2 g' rfl
    have e2':∀g,bU 9 v (.int .i64 ((k:Int)+1)) g=.ok (.ptr i' q') g:=fun g=>e2 g
    have hcast:(k:Int)+1 - 1=(k:Int):=by omega
    have h10:((1:Int)<0)=False:=eq_false (by decide)
    obtain⟨g2,e3,c3⟩:=hc g' k (k+1) x y cx cy cg (by omega) hx hy ex ey lx ly
    simp (disch:=omega) only [vvB,Nat.reduceEqDiff,reduceCtorEq,↓reduceIte,jq,jo,mO,f9,f2,f0,f3,e2',n2',hcast,e1,n1',e3,h10]
    exact⟨m - 1,by omega,k+1,by omega,qK1,qK2 f3,qK2 f2,qK2 f0,cg.trans c3,by omega⟩
  ·rintro fr g' ⟨f9,f2,cg⟩
   simp (disch:=omega) only [vvB,Nat.reduceEqDiff,reduceCtorEq,↓reduceIte,mM,mJ,f9,f2]
   exact⟨qK0,cg⟩
  ·intro fr g q;exact q.elim
 ·intro fr g q;exact q.elim
 ·rintro fr g ⟨f8,cg⟩
  exact aU.ret (qT1 f8) ⟨rfl,cg⟩
theorem alx{α:Type}{P:Pos→Prop}{E:El α}{h:Hp}{v f:V}{l:List α}(r:Rws P E 9 h v l)(hE:E.Stable)(hn:l.length<50)(hc1:jV lY P E h f l)(hc2:jV iE P E h f l)(hc3:jV jJ P E h f l):
  ∃h',uV [v,f] h=.ok V.undef h'∧Nw h h':=by
 obtain⟨k,ek,hk0⟩:=XZ h (n:=l.length) (by omega)
 have cu:kU .u64 (.int .i64 (l.length:Int)) h=.ok (.int .u64 (l.length:Int)) h:=aku (by omega) (by omega)
 have pd:∃u' h',mD [v,.int .i64 0,.int .i64 (l.length:Int),.int .i64 k,f] h=.ok u' h'∧Nw h h':=by
  rw [PS]
  suffices T:aU Tryz.prog [] (fun u g=>Nw h g) (lZ (T.set (some f) (Pos.of 4) (T.set (some (.int .i64 k)) (Pos.of 3) (T.set (some (.int .i64 (l.length:Int))) (Pos.of 2) (T.set (some (.int .i64 0)) (Pos.of 1) (T.set (some v) (Pos.of 0) T.nil))))) h) by
   obtain⟨u,g,e2,c⟩:=T;exact⟨u,g,e2,c⟩
  simp (disch:=omega) only [vvB,Nat.reduceEqDiff,reduceCtorEq,↓reduceIte,lZ,yN,yM]
  refine Oc.out (dR (n:=0) (fun m fr g=>fr.get (Pos.of 0)=some v∧fr.get (Pos.of 1)=some (.int .i64 0)∧fr.get (Pos.of 2)=some (.int .i64 (l.length:Int))∧fr.get (Pos.of 3)=some (.int .i64 k)∧fr.get (Pos.of 4)=some f∧fr.get (Pos.of 10)=some (.bool true)∧fr.get (Pos.of 11)=some (.bool true)∧g=h) (A:=fun _ _=>False) (B:=fun fr g=>Nw h g) (by rw [dS];omega) ⟨qK0,qK0,qK0,qK0,qK0,qK0,qK0,rfl⟩ ?_) ?_ ?_
  ·rintro m fr g ⟨f0,f1,f2,f3,f4,f10,f11,rfl⟩
   by_cases h12:l.length≤12
   ·obtain⟨u,g1,e,c⟩:=aif r hE (by omega) hc1
    simp (disch:=omega) only [vvB,Nat.reduceEqDiff,reduceCtorEq,↓reduceIte,pW,pR,pO,yL,f0,f1,f2,f4,Int.sub_zero,e]
    exact c
   ·have hk:=hk0 (by omega)
    have hkf:(k=0)=False:=eq_false hk
    obtain⟨pp,g1,e1,c1⟩:=aex r hE hc2 (by omega) hn
    obtain⟨g2,e2,c2⟩:=anR (r.nw hE c1) hE (by omega) (by omega) (f:=f) fun g' i j x y cx cy c'=>hc3 g' i j x y cx cy (c1.trans c')
    simp (disch:=omega) only [vvB,Nat.reduceEqDiff,reduceCtorEq,↓reduceIte,pW,pR,pO,yK,yJ,wX,wW,wV,wU,f0,f1,f2,f3,f4,f10,f11,Int.sub_zero,hkf,e1,e2]
    exact c1.trans c2
  ·intro fr g q;exact q.elim
  ·rintro fr g c
   exact aU.ret (qT0) c
 obtain⟨u',h',ep,c⟩:=pd
 refine⟨h',?_,c⟩
 rw [aap]
 simp (disch:=omega) only [vvB,Nat.reduceEqDiff,reduceCtorEq,↓reduceIte,CP,IJ,II,r.len,cu,ek,ep]
 rfl
end Go.Proofs.Im

noncomputable section
namespace Go.Vm
variable{h:Hp}{i:Pos}
theorem Kn.rws{α:Type}{c:α→List V}{sz:Nat}{w:Wr}{l:List α}{cp:Cap}(k:Kn h i (.cells w (l.map c).flatten))(hw:∀x,(c x).length=sz)(hcap:jM sz (.slice i 0 l.length cp)):
  Rws (fun j=>j=i) (flat c) sz h (.slice i 0 l.length cp) l:=by
 have hws:∀d∈l.map c,d.length=sz:=fun d hd=>by obtain⟨x,_,rfl⟩:=List.mem_map.1 hd;exact hw x
 refine⟨l.map c,?_,hws,⟨?_,.inr ⟨i,0,cp,w,_,rfl,k.2,by rw [k.1];rfl,fun q _=>by rw [Nat.zero_add]⟩⟩,hcap,fun j hj=>by cases hj;rfl⟩
 ·clear k hcap hws
  induction l with
  |nil=>exact .nil
  |cons a l ih=>exact .cons rfl ih
 ·rw [jv hws,List.length_map]
end Go.Vm
namespace Go.Im
open Go.Vm
variable{tM:TypeId}{I:Pos→Prop}{h:Hp}{v:V}{l:List Ml}
theorem aIK.rws(r:aIK tM I h v l):Rws (fun j=>I j∨aX v=some j) kG 8 h v l:=by
 obtain⟨css,a,hw,r⟩:=r
 have a':All2 (kG (fun j=>I j∨aX v=some j) h) l css:=a.mono fun _ _ e=>dw e (Nw.refl h) fun j _ q=>⟨.inl q,fun q=>q⟩
 rcases r with⟨rfl,rfl⟩|⟨i,f,rest,rfl,k⟩
 ·cases a
  exact Rws.aG _ _ _ _
 ·refine⟨css,a',hw,⟨by rw [jv hw,a.len],.inr ⟨i,0,_,.rw tM f,css.flatten++rest,rfl,k.2,by rw [k.1];rfl,fun q hq=>?_⟩⟩,fun _ _ _ _ e=>(by cases e;rfl),fun j hj=>.inr hj⟩
  rw [Nat.zero_add,List.getElem?_append_left]
  rw [jv hw,a.len];exact hq
end Go.Im
namespace Go.Proofs.Im
open Go Go.Proofs Go.Vm Go.Im
set_option maxRecDepth 100000
variable{h h' g:Hp}{F I:Pos→Prop}{ps pl ib:Pos}{A:Acc}{cb:Cap}{fb:Bool}{vm vl:V}
abbrev dL(h:Hp)(F:Pos→Prop)(ps:Pos)(A:Acc)(pl ib:Pos)(cb:Cap)(fb:Bool)(vm vl:V)(I:Pos→Prop):Prop:=AccR tSt tLg tBx tMl tEn h F ps A pl ib cb fb vm vl I
theorem dL.bxr(a:dL h F ps A pl ib cb fb vm vl I):Rws (fun j=>j=ib) (flat fQ) 6 h (.slice ib 0 A.boxes.length cb) A.boxes:=a.bx.rws (fun _=>rfl) a.cap
theorem dL.ch{S:Pos→Prop}(a:dL h F ps A pl ib cb fb vm vl I)(c:Ch S h h')(hs:∀j,F j→¬S j):dL h' F ps A pl ib cb fb vm vl I where
 st:=a.st.ch c (hs _ a.foot.1)
 lg:=a.lg.ch c (hs _ a.foot.2.1)
 bx:=a.bx.ch c (hs _ a.foot.2.2.1)
 cap:=a.cap
 ml:=by
  obtain⟨css,x,hw,r⟩:=a.ml
  exact⟨css,x.mono fun _ _ e=>dw e c fun j _ q=>⟨q,hs j (a.inn j q).1⟩,hw,r.imp id fun⟨i,f,rest,e,k⟩=>⟨i,f,rest,e,k.ch c (hs i (a.foot.2.2.2.1 i (by rw [e];rfl)))⟩⟩
 en:=a.en.ch (aQ _) c (fun j e=>hs j (a.foot.2.2.2.2 j e)) fun _ _ q=>q.elim
 ne:=a.ne
 nm:=a.nm
 nl:=a.nl
 inn:=a.inn
 foot:=a.foot
 lt:=fun j f=>Nat.lt_of_lt_of_le (a.lt j f) c.next
 enil:=a.enil
theorem dL.nw(a:dL h F ps A pl ib cb fb vm vl I)(c:Nw h h'):dL h' F ps A pl ib cb fb vm vl I:=a.ch c fun _ _ q=>q
theorem aGu{b:Bx}{p:Pos}{n:Int}{w:Wr}(k:Kn g p (.cells w [iV n])):PO [.agg (V.ofList (fQ b)),.ptr p 0] g=.ok (.bool (decide (b.id=n))) (g.new (.cells (.rw tBx true) (fQ b))):=by
 have e1:=(Kn.new g (.cells (.rw tBx true) (fQ b))).ld (q:=0) (x:=iV b.id) rfl
 have e2:=(k.add (.cells (.rw tBx true) (fQ b))).ld (q:=0) (x:=iV n) rfl
 rw [ayA]
 simp only [vvB,Nat.reduceEqDiff,reduceCtorEq,↓reduceIte,ag4,ajs,ajr,V.dF,e1,e2]
 simp only [aT,bD,vvB,Nat.reduceEqDiff,reduceCtorEq,↓reduceIte,bF]
theorem aDA(p:Pos)(x:V)(g:Hp):dX kD (.func (.func aub) .nil (.cons (.ptr p 0) .nil)) [x] g=PO [x,.ptr p 0] g:=(rfl)
theorem abG(a:dL h F ps A pl ib cb fb vm vl I)(hA:A.Small)(n:Int):∃h',Gg [.ptr ps 0,iV n] h=.ok (iV (iH (A.boxes.findIdx? fun b=>decide (b.id=n)))) h'∧Nw h h':=by
 obtain⟨h1,hh1,c1,k1⟩:=mkW h (.cells (.rw fB true) [iV n])
 have a1:=a.nw c1
 have L:=a1.st.ld (q:=10) rfl
 obtain⟨h2,e2,c2⟩:=zV a1.bxr (aQ _) (fun b=>decide (b.id=n)) (by have:=hA.boxes;omega) (f:=.func (.func aub) .nil (.cons (.ptr h.next 0) .nil)) (fun b cs g _ cg e _=>by
  rw [show cs=fQ b from e,aDA,aGu (k1.nw cg)]
  exact⟨_,rfl,Nw.new _ _⟩)
 rw [azK]
 simp only [vvB,Nat.reduceEqDiff,reduceCtorEq,↓reduceIte,alY,aox,aow,←hh1,L,e2]
 exact⟨h2,by simp only [aT,bD,vvB,Nat.reduceEqDiff,reduceCtorEq,↓reduceIte,bF],c1.trans c2⟩
end Go.Proofs.Im
