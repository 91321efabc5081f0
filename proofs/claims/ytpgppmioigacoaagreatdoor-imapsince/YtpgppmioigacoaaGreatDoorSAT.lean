/- Lemmas that the claim's last text uses. No conditions. -/
import Derived.Test.YtpgppmioigacoaaGreatDoorSAR
import Derived.Test.YtpgppmioigacoaaGreatDoorSAQ
set_option linter.all false
set_option maxRecDepth 100000
open Go.Vm.Pos renaming of→a!
open List renaming getElem?_eq_getElem→b!,mem_of_getElem?→d!,findIdx?_append→e!,take_length→g!,take_add_one→i!,length_eq_zero_iff→j!,length_pos_iff→l!,getElem?_map→o!,length_map→q!,map_set→w!
open Go.Proofs.Tryz renaming prog→c!
open Nat renaming le_refl→h!,ble_eq_true_of_le→k!,zero_add→p!,ble→r!,add_zero→t!,zero_le→u!,mul_one→x!
open Int renaming sub_zero→n!,natCast_zero→v!
open Go.Vm.V renaming int→Y,ptr→X,bool→K,str→H
open Go.IntKind renaming i64→U
open Go.Vm.Ob renaming cells→O
open Go.Vm.Wr renaming rw→N
open Go.Vm.R renaming ok→D
noncomputable section
open Go Go.Proofs Go.Vm Go.Im
namespace Go.Proofs.Im
theorem Wy(h:Hp){n:Nat}(f:n<256):∃k:Int,Le [Y .u64 (n:Int)] h=D (Y U k) h/\(0<n->k≠0):=by
 have c:jV .u8 (Y .u64 (n:Int)) h=D (Y .u8 (n:Int)) h:=by
  show jd .u8 (wI .u8 (n:Int)) h=_;rw[zF,wrap_u8 f,iq]
 have key:∃k:Int,QY [Y .u64 (n:Int)] h=D (Y U k) h/\(0<n->k≠0):=by
  rw[arG]
  suffices T:aW c! [.tmp 2] (λr g=>(∃k:Int,r=Y U k/\(0<n->k≠0))/\g=h) (QM (T.set (some (Y .u64 (n:Int))) (a! 0) T.nil) h) by
   obtain⟨r,g,e,⟨k,rfl,b⟩,rfl⟩:=T;exact⟨k,e,b⟩
  simp(disch:=omega)only[vvB,seval,QM,afr,afq,afp,afo,ac4,c];refine aIg (Q:=λo=>aW c! [.tmp 2] (λr g=>(∃k:Int,r=Y U k/\(0<n->k≠0))/\g=h) (qQ o Out.ret)) (by simp only[List.length_cons,List.length_nil,Nat.blt_eq];omega) (by rfl) (by rfl) λa i d=>?_;simp(disch:=omega)only[vvB,seval];exact aW.ret (qT0) ⟨⟨(a:Int),by simp,λq=>by have:=d q;omega⟩,rfl⟩
 obtain⟨k,e,b⟩:=key;refine⟨k,?_,b⟩;rw[axB];simp(disch:=omega)only[vvB,seval,akS,ank,anj,e];simp only[aU,cO,vvB,seval,dn]<;>rfl
theorem aj2{h:Hp}{n:Int}(h0:0<=n)(a:n<1000000):jV .u64 (Y U n) h=D (Y .u64 n) h:=by
 show jd .u64 (wI .u64 n) h=_;rw[zF,iq];congr 2;simp[IntKind.wrap,IntKind.signed,IntKind.bits];omega
theorem ajN{α:Type}{P:Pos->Prop}{c:α->List V}{h:Hp}{v:V}{l:List α}(r:Rws P (flat c) 1 h v l)(x:l.length*8<=140737488355328):
  ∃r h',yc [v] h=D r h'/\Rws (λj=>h.next.nat<=j.nat) (flat c) 1 h' r l/\Nw h h'/\(l= []\/dA h.next.nat (λ_=>False) (flat c) 3 1 h' r l):=by
 obtain⟨b,a,y,s,kk,p⟩:=r;have m:l.length=0->l= []:=j!.1;rw[ak4];show aW c! _ (λr h'=>Rws (λj=>h.next.nat<=j.nat) (flat c) 1 h' r l/\Nw h h'/\(l= []\/dA h.next.nat (λ_=>False) (flat c) 3 1 h' r l)) _;by_cases t:v=.aO
 ·subst t;have hl:l= []:=by
   rcases s.is with⟨h0,_⟩|⟨i,o,cp,wr,all,e,_⟩
   ·exact m h0
   ·cases e
  subst hl;simp(disch:=omega)only[vvB,seval,xX,zh,zf,U8,sG];exact aW.ret (qT0) ⟨Rws.aO _ _ _ _,Nw.refl _,.inl (by trivial)⟩
 ·have n:∀g,aI .eql .slice v .aO g=D (K false) g:=λg=>by
   rcases s.is with⟨_,h0|h0⟩|⟨i,o,cp,wr,all,h0,_⟩
   ·exact absurd h0 t
   ·rw[h0];rfl
   ·rw[h0];rfl
  have f:Nw h (h.new (O (N 3 true) [])):=Nw.new _ _;have w:Sl h.next.nat (h.new (O (N 3 true) [])) 1 v l.length b.flatten:=s.ch f (h! _) λ_ _ q=>q;by_cases hl:l= []
  ·subst hl;cases a;have k:bK 3 1 8 (.slice h.next 0 0 (.kn 0)) v (h.new (O (N 3 true) []))=D (.slice h.next 0 0 (.kn 0)) (h.new (O (N 3 true) [])):=Td w;simp(disch:=omega)only[vvB,seval,xX,zh,zf,IC,n,k];exact aW.ret (qT0) ⟨Rws.zero (h! _),f,.inl (by trivial)⟩
  ·have d:0<l.length:=l!.2 hl;have k:bK 3 1 8 (.slice h.next 0 0 (.kn 0)) v (h.new (O (N 3 true) []))=_:=Gx w d (p:=h.next) (wr:=N 3 true) (cs0:= []) (by rw[dX];rfl) x;simp(disch:=omega)only[vvB,seval,xX,zh,zf,IC,n,k];have u:dA h.next.nat (λ_=>False) (flat c) 3 1 ((h.new (O (N 3 true) [])).new (O (N 3 false) b.flatten)) (.slice (h.new (O (N 3 true) [])).next 0 l.length (.un 1)) l:=
    ⟨b,a,y,s.len,.inr ⟨_,rfl,by have:=bI h (O (N 3 true) []);omega,by have:=bI (h.new (O (N 3 true) [])) (O (N 3 false) b.flatten);omega,false,dX _ _⟩⟩
   exact aW.ret (qT0) ⟨u.rows (aK _) (λ_ _ q=>q.elim) λ_ q _=>q,f.trans (Nw.new _ _),.inr u⟩
theorem axI{α:Type}{P:Pos->Prop}{c:α->List V}{h:Hp}{v:V}{l:List α}(r:Rws P (flat c) 6 h v l)(x:l.length*56<=140737488355328):
  ∃r h',Ec [v] h=D r h'/\Rws (λj=>h.next.nat<=j.nat) (flat c) 6 h' r l/\Nw h h'/\(l= []\/dA h.next.nat (λ_=>False) (flat c) 55 6 h' r l):=by
 obtain⟨b,a,y,s,kk,p⟩:=r;have m:l.length=0->l= []:=j!.1;rw[ak5];show aW c! _ (λr h'=>Rws (λj=>h.next.nat<=j.nat) (flat c) 6 h' r l/\Nw h h'/\(l= []\/dA h.next.nat (λ_=>False) (flat c) 55 6 h' r l)) _;by_cases t:v=.aO
 ·subst t;have hl:l= []:=by
   rcases s.is with⟨h0,_⟩|⟨i,o,cp,wr,all,e,_⟩
   ·exact m h0
   ·cases e
  subst hl;simp(disch:=omega)only[vvB,seval,xY,zk,zi,U9,sG];exact aW.ret (qT0) ⟨Rws.aO _ _ _ _,Nw.refl _,.inl (by trivial)⟩
 ·have n:∀g,aI .eql .slice v .aO g=D (K false) g:=λg=>by
   rcases s.is with⟨_,h0|h0⟩|⟨i,o,cp,wr,all,h0,_⟩
   ·exact absurd h0 t
   ·rw[h0];rfl
   ·rw[h0];rfl
  have f:Nw h (h.new (O (N 55 true) [])):=Nw.new _ _;have w:Sl h.next.nat (h.new (O (N 55 true) [])) 6 v l.length b.flatten:=s.ch f (h! _) λ_ _ q=>q;by_cases hl:l= []
  ·subst hl;cases a;have k:bK 55 6 56 (.slice h.next 0 0 (.kn 0)) v (h.new (O (N 55 true) []))=D (.slice h.next 0 0 (.kn 0)) (h.new (O (N 55 true) [])):=Td w;simp(disch:=omega)only[vvB,seval,xY,zk,zi,IE,n,k];exact aW.ret (qT0) ⟨Rws.zero (h! _),f,.inl (by trivial)⟩
  ·have d:0<l.length:=l!.2 hl;have k:bK 55 6 56 (.slice h.next 0 0 (.kn 0)) v (h.new (O (N 55 true) []))=_:=Gx w d (p:=h.next) (wr:=N 55 true) (cs0:= []) (by rw[dX];rfl) x;simp(disch:=omega)only[vvB,seval,xY,zk,zi,IE,n,k];have u:dA h.next.nat (λ_=>False) (flat c) 55 6 ((h.new (O (N 55 true) [])).new (O (N 55 false) b.flatten)) (.slice (h.new (O (N 55 true) [])).next 0 l.length (.un 6)) l:=
    ⟨b,a,y,s.len,.inr ⟨_,rfl,by have:=bI h (O (N 55 true) []);omega,by have:=bI (h.new (O (N 55 true) [])) (O (N 55 false) b.flatten);omega,false,dX _ _⟩⟩
   exact aW.ret (qT0) ⟨u.rows (aK _) (λ_ _ q=>q.elim) λ_ q _=>q,f.trans (Nw.new _ _),.inr u⟩
theorem arQ{α:Type}{P:Pos->Prop}{c:α->List V}{h:Hp}{v:V}{l:List α}(r:Rws P (flat c) 4 h v l)(x:l.length*32<=140737488355328):
  ∃r h',oQ [v] h=D r h'/\Rws (λj=>h.next.nat<=j.nat) (flat c) 4 h' r l/\Nw h h'/\(l= []\/dA h.next.nat (λ_=>False) (flat c) 85 4 h' r l):=by
 obtain⟨b,a,y,s,kk,p⟩:=r;have m:l.length=0->l= []:=j!.1;rw[Oo];show aW c! _ (λr h'=>Rws (λj=>h.next.nat<=j.nat) (flat c) 4 h' r l/\Nw h h'/\(l= []\/dA h.next.nat (λ_=>False) (flat c) 85 4 h' r l)) _;by_cases t:v=.aO
 ·subst t;have hl:l= []:=by
   rcases s.is with⟨h0,_⟩|⟨i,o,cp,wr,all,e,_⟩
   ·exact m h0
   ·cases e
  subst hl;simp(disch:=omega)only[vvB,seval,oO,pI,pG,BN,sG];exact aW.ret (qT0) ⟨Rws.aO _ _ _ _,Nw.refl _,.inl (by trivial)⟩
 ·have n:∀g,aI .eql .slice v .aO g=D (K false) g:=λg=>by
   rcases s.is with⟨_,h0|h0⟩|⟨i,o,cp,wr,all,h0,_⟩
   ·exact absurd h0 t
   ·rw[h0];rfl
   ·rw[h0];rfl
  have f:Nw h (h.new (O (N 85 true) [])):=Nw.new _ _;have w:Sl h.next.nat (h.new (O (N 85 true) [])) 4 v l.length b.flatten:=s.ch f (h! _) λ_ _ q=>q;by_cases hl:l= []
  ·subst hl;cases a;have k:bK 85 4 32 (.slice h.next 0 0 (.kn 0)) v (h.new (O (N 85 true) []))=D (.slice h.next 0 0 (.kn 0)) (h.new (O (N 85 true) [])):=Td w;simp(disch:=omega)only[vvB,seval,oO,pI,pG,BM,n,k];exact aW.ret (qT0) ⟨Rws.zero (h! _),f,.inl (by trivial)⟩
  ·have d:0<l.length:=l!.2 hl;have k:bK 85 4 32 (.slice h.next 0 0 (.kn 0)) v (h.new (O (N 85 true) []))=_:=Gx w d (p:=h.next) (wr:=N 85 true) (cs0:= []) (by rw[dX];rfl) x;simp(disch:=omega)only[vvB,seval,oO,pI,pG,BM,n,k];have u:dA h.next.nat (λ_=>False) (flat c) 85 4 ((h.new (O (N 85 true) [])).new (O (N 85 false) b.flatten)) (.slice (h.new (O (N 85 true) [])).next 0 l.length (.un 4)) l:=
    ⟨b,a,y,s.len,.inr ⟨_,rfl,by have:=bI h (O (N 85 true) []);omega,by have:=bI (h.new (O (N 85 true) [])) (O (N 85 false) b.flatten);omega,false,dX _ _⟩⟩
   exact aW.ret (qT0) ⟨u.rows (aK _) (λ_ _ q=>q.elim) λ_ q _=>q,f.trans (Nw.new _ _),.inr u⟩
theorem apY(h:Hp):oQ [.aO] h=D .aO h:=by
 rw[Oo];simp(disch:=omega)only[vvB,seval,oO,pI,pG,BN,sG];simp only[aU,cO,vvB,seval,dn]
theorem apX{α:Type}{P:Pos->Prop}{c:α->List V}{h:Hp}{v:V}{l:List α}(r:Rws P (flat c) 2 h v l)(x:l.length*16<=140737488355328):
  ∃r h',xJ [v] h=D r h'/\Rws (λj=>h.next.nat<=j.nat) (flat c) 2 h' r l/\Nw h h'/\(l= []\/dA h.next.nat (λ_=>False) (flat c) 106 2 h' r l):=by
 obtain⟨b,a,y,s,kk,p⟩:=r;have m:l.length=0->l= []:=j!.1;rw[adX];show aW c! _ (λr h'=>Rws (λj=>h.next.nat<=j.nat) (flat c) 2 h' r l/\Nw h h'/\(l= []\/dA h.next.nat (λ_=>False) (flat c) 106 2 h' r l)) _;by_cases t:v=.aO
 ·subst t;have hl:l= []:=by
   rcases s.is with⟨h0,_⟩|⟨i,o,cp,wr,all,e,_⟩
   ·exact m h0
   ·cases e
  subst hl;simp(disch:=omega)only[vvB,seval,qL,tY,tX,NR,sG];exact aW.ret (qT0) ⟨Rws.aO _ _ _ _,Nw.refl _,.inl (by trivial)⟩
 ·have n:∀g,aI .eql .slice v .aO g=D (K false) g:=λg=>by
   rcases s.is with⟨_,h0|h0⟩|⟨i,o,cp,wr,all,h0,_⟩
   ·exact absurd h0 t
   ·rw[h0];rfl
   ·rw[h0];rfl
  have f:Nw h (h.new (O (N 106 true) [])):=Nw.new _ _;have w:Sl h.next.nat (h.new (O (N 106 true) [])) 2 v l.length b.flatten:=s.ch f (h! _) λ_ _ q=>q;by_cases hl:l= []
  ·subst hl;cases a;have k:bK 106 2 16 (.slice h.next 0 0 (.kn 0)) v (h.new (O (N 106 true) []))=D (.slice h.next 0 0 (.kn 0)) (h.new (O (N 106 true) [])):=Td w;simp(disch:=omega)only[vvB,seval,qL,tY,tX,Ag,n,k];exact aW.ret (qT0) ⟨Rws.zero (h! _),f,.inl (by trivial)⟩
  ·have d:0<l.length:=l!.2 hl;have k:bK 106 2 16 (.slice h.next 0 0 (.kn 0)) v (h.new (O (N 106 true) []))=_:=Gx w d (p:=h.next) (wr:=N 106 true) (cs0:= []) (by rw[dX];rfl) x;simp(disch:=omega)only[vvB,seval,qL,tY,tX,Ag,n,k];have u:dA h.next.nat (λ_=>False) (flat c) 106 2 ((h.new (O (N 106 true) [])).new (O (N 106 false) b.flatten)) (.slice (h.new (O (N 106 true) [])).next 0 l.length (.un 2)) l:=
    ⟨b,a,y,s.len,.inr ⟨_,rfl,by have:=bI h (O (N 106 true) []);omega,by have:=bI (h.new (O (N 106 true) [])) (O (N 106 false) b.flatten);omega,false,dX _ _⟩⟩
   exact aW.ret (qT0) ⟨u.rows (aK _) (λ_ _ q=>q.elim) λ_ q _=>q,f.trans (Nw.new _ _),.inr u⟩
theorem ZG{α:Type}{P:Pos->Prop}{c:α->List V}{h:Hp}{v:V}{l:List α}(r:Rws P (flat c) 1 h v l)(x:l.length*16<=140737488355328):
  ∃r h',qO [v] h=D r h'/\Rws (λj=>h.next.nat<=j.nat) (flat c) 1 h' r l/\Nw h h'/\(l= []\/dA h.next.nat (λ_=>False) (flat c) 9 1 h' r l):=by
 obtain⟨b,a,y,s,kk,p⟩:=r;have m:l.length=0->l= []:=j!.1;rw[adW];show aW c! _ (λr h'=>Rws (λj=>h.next.nat<=j.nat) (flat c) 1 h' r l/\Nw h h'/\(l= []\/dA h.next.nat (λ_=>False) (flat c) 9 1 h' r l)) _;by_cases t:v=.aO
 ·subst t;have hl:l= []:=by
   rcases s.is with⟨h0,_⟩|⟨i,o,cp,wr,all,e,_⟩
   ·exact m h0
   ·cases e
  subst hl;simp(disch:=omega)only[vvB,seval,qK,tN,tK,NQ,sG];exact aW.ret (qT0) ⟨Rws.aO _ _ _ _,Nw.refl _,.inl (by trivial)⟩
 ·have n:∀g,aI .eql .slice v .aO g=D (K false) g:=λg=>by
   rcases s.is with⟨_,h0|h0⟩|⟨i,o,cp,wr,all,h0,_⟩
   ·exact absurd h0 t
   ·rw[h0];rfl
   ·rw[h0];rfl
  have f:Nw h (h.new (O (N 9 true) [])):=Nw.new _ _;have w:Sl h.next.nat (h.new (O (N 9 true) [])) 1 v l.length b.flatten:=s.ch f (h! _) λ_ _ q=>q;by_cases hl:l= []
  ·subst hl;cases a;have k:bK 9 1 16 (.slice h.next 0 0 (.kn 0)) v (h.new (O (N 9 true) []))=D (.slice h.next 0 0 (.kn 0)) (h.new (O (N 9 true) [])):=Td w;simp(disch:=omega)only[vvB,seval,qK,tN,tK,Af,n,k];exact aW.ret (qT0) ⟨Rws.zero (h! _),f,.inl (by trivial)⟩
  ·have d:0<l.length:=l!.2 hl;have k:bK 9 1 16 (.slice h.next 0 0 (.kn 0)) v (h.new (O (N 9 true) []))=_:=Gx w d (p:=h.next) (wr:=N 9 true) (cs0:= []) (by rw[dX];rfl) x;simp(disch:=omega)only[vvB,seval,qK,tN,tK,Af,n,k];have u:dA h.next.nat (λ_=>False) (flat c) 9 1 ((h.new (O (N 9 true) [])).new (O (N 9 false) b.flatten)) (.slice (h.new (O (N 9 true) [])).next 0 l.length (.un 1)) l:=
    ⟨b,a,y,s.len,.inr ⟨_,rfl,by have:=bI h (O (N 9 true) []);omega,by have:=bI (h.new (O (N 9 true) [])) (O (N 9 false) b.flatten);omega,false,dX _ _⟩⟩
   exact aW.ret (qT0) ⟨u.rows (aK _) (λ_ _ q=>q.elim) λ_ q _=>q,f.trans (Nw.new _ _),.inr u⟩
theorem yP{α:Type}{P:Pos->Prop}{E:El α}{h:Hp}{v f:V}{l:List α}(r:Rws P E 6 h v l)(J:E.Stable)(p:α->Bool)(S:l.length<=1000000000)
  (M:∀a cs g,a∈l->Nw h g->E P g a cs->cs.length=6->∃g',dI kP f [.agg (V.ofList cs)] g=D (K (p a)) g'/\Nw g g'):
  ∃h',kQ [v,f] h=D (Y U (gy (l.findIdx? p))) h'/\Nw h h':=by
 rw[abN]
 suffices T:aW c! [.tmp 4] (λr h'=>r=Y U (gy (l.findIdx? p))/\Nw h h') (vF (T.set (some f) (a! 1) (T.set (some v) (a! 0) T.nil)) h) by
  obtain⟨r,h',e,rfl,c⟩:=T;exact⟨h',e,c⟩
 simp(disch:=omega)only[vvB,seval,vF,JG,JF,r.len,JU];refine Oc.then (dK (σ:=Unit) (n:=l.length) (pi:=8) (pn:=7) (pc:=9) [0,1] (λ_=> [v,f]) (λk _ g=>Nw h g/\(l.take k).findIdx? p=none)
  (A:=λfr g=>Nw h g/\l.findIdx? p=none) (B:=λfr g=>fr.get (a! 4)=some (Y U (gy (l.findIdx? p)))/\Nw h g) (s:=())
  (λfr h _ k e1 e2=>by simp only[vvB,seval,JE,e1,e2]) (λfr h k _ e1=>by simp(disch:=omega)only[vvB,seval,JA,e1]) (by decide) (by rw[dO];omega) (qK0) (qK0) (by simp only[Fa,vvB,seval,and_self]) ⟨Nw.refl _,by simp⟩ ?_ ?_) ?_ ?_
 ·intro k _ fr g Q m I w o;obtain⟨f0,f1,-⟩:=w;obtain⟨c,b⟩:=o;obtain⟨x,j⟩:∃x,l[k]?=some x:=⟨_,b! Q⟩
  obtain⟨i,q,cs,e1,ex,L,hi,-,-,y⟩:=(r.nw J c).elt j;obtain⟨g',z,u⟩:=M x cs g (d! j) c ex L;have C:=y g rfl;simp(disch:=omega)only[vvB,seval,JD,JC,f0,f1,m,e1,C,z];by_cases t:p x=true
  ·simp only[vvB,seval,t,JB];refine⟨?_,c.trans u⟩;simp only[vvB,seval];rw[lY j b t];rfl
  ·have d:p x=false:=by simpa using t
   simp only[vvB,seval,d];refine⟨qK2 m,qK2 I,(),by simp only[Fa,vvB,seval,f0,f1,and_self],c.trans u,?_⟩;rw[i!,j];simp[e!,b,d]
 ·intro _ fr g w o;obtain⟨c,b⟩:=o;rw[g!]at b;exact⟨c,b⟩
 ·rintro fr g ⟨c,b⟩;simp only[vvB,seval,Jz];exact aW.ret (qT0) ⟨by rw[b];rfl,c⟩
 ·rintro fr g ⟨G,c⟩;exact aW.ret (qT1 G) ⟨rfl,c⟩
theorem amA{α:Type}{P:Pos->Prop}{E:El α}{h:Hp}{v f:V}{l:List α}(r:Rws P E 1 h v l)(L:E.Stable)(p:α->Bool)(W:l.length<=1000000000)
  (Q:∀a x g,a∈l->Nw h g->E P g a [x]->∃g',dI pO f [x] g=D (K (p a)) g'/\Nw g g'):
  ∃h',vH [v,f] h=D (Y U (gy (l.findIdx? p))) h'/\Nw h h':=by
 rw[abM]
 suffices T:aW c! [.tmp 4] (λr h'=>r=Y U (gy (l.findIdx? p))/\Nw h h') (vC (T.set (some f) (a! 1) (T.set (some v) (a! 0) T.nil)) h) by
  obtain⟨r,h',e,rfl,c⟩:=T;exact⟨h',e,c⟩
 simp(disch:=omega)only[vvB,seval,vC,Jy,Jw,r.len,JS];refine Oc.then (dK (σ:=Unit) (n:=l.length) (pi:=8) (pn:=7) (pc:=9) [0,1] (λ_=> [v,f]) (λk _ g=>Nw h g/\(l.take k).findIdx? p=none)
  (A:=λfr g=>Nw h g/\l.findIdx? p=none) (B:=λfr g=>fr.get (a! 4)=some (Y U (gy (l.findIdx? p)))/\Nw h g) (s:=())
  (λfr h _ k e1 e2=>by simp only[vvB,seval,Jv,e1,e2]) (λfr h k _ e1=>by simp(disch:=omega)only[vvB,seval,Jr,e1]) (by decide) (by rw[dO];omega) (qK0) (qK0) (by simp only[Fa,vvB,seval,and_self]) ⟨Nw.refl _,by simp⟩ ?_ ?_) ?_ ?_
 ·intro k _ fr g S m J w o;obtain⟨f0,f1,-⟩:=w;obtain⟨c,b⟩:=o;obtain⟨x,j⟩:∃x,l[k]?=some x:=⟨_,b! S⟩
  obtain⟨i,q,cs,e1,ex,M,hi,-,z,-⟩:=(r.nw L c).elt j;obtain⟨y,rfl⟩:=ayg M;obtain⟨g',C,u⟩:=Q x y g (d! j) c ex;have G:aF (X i q) g=D y g:=z g rfl 0 y rfl;simp(disch:=omega)only[vvB,seval,Ju,Jt,f0,f1,m,e1,G,C];by_cases t:p x=true
  ·simp only[vvB,seval,t,Js];refine⟨?_,c.trans u⟩;simp only[vvB,seval];rw[lY j b t];rfl
  ·have d:p x=false:=by simpa using t
   simp only[vvB,seval,d];refine⟨qK2 m,qK2 J,(),by simp only[Fa,vvB,seval,f0,f1,and_self],c.trans u,?_⟩;rw[i!,j];simp[e!,b,d]
 ·intro _ fr g w o;obtain⟨c,b⟩:=o;rw[g!]at b;exact⟨c,b⟩
 ·rintro fr g ⟨c,b⟩;simp only[vvB,seval,Jq];exact aW.ret (qT0) ⟨by rw[b];rfl,c⟩
 ·rintro fr g ⟨I,c⟩;exact aW.ret (qT1 I) ⟨rfl,c⟩
theorem Tn{α:Type}{P:Pos->Prop}{E:El α}{h:Hp}{v f:V}{l:List α}(r:Rws P E 8 h v l)(J:E.Stable)(p:α->Bool)(S:l.length<=1000000000)
  (M:∀a cs g,a∈l->Nw h g->E P g a cs->cs.length=8->∃g',dI uz f [.agg (V.ofList cs)] g=D (K (p a)) g'/\Nw g g'):
  ∃h',oL [v,f] h=D (Y U (gy (l.findIdx? p))) h'/\Nw h h':=by
 rw[Zy]
 suffices T:aW c! [.tmp 4] (λr h'=>r=Y U (gy (l.findIdx? p))/\Nw h h') (uG (T.set (some f) (a! 1) (T.set (some v) (a! 0) T.nil)) h) by
  obtain⟨r,h',e,rfl,c⟩:=T;exact⟨h',e,c⟩
 simp(disch:=omega)only[vvB,seval,uG,Ia,H9,r.len,Jc];refine Oc.then (dK (σ:=Unit) (n:=l.length) (pi:=8) (pn:=7) (pc:=9) [0,1] (λ_=> [v,f]) (λk _ g=>Nw h g/\(l.take k).findIdx? p=none)
  (A:=λfr g=>Nw h g/\l.findIdx? p=none) (B:=λfr g=>fr.get (a! 4)=some (Y U (gy (l.findIdx? p)))/\Nw h g) (s:=())
  (λfr h _ k e1 e2=>by simp only[vvB,seval,H8,e1,e2]) (λfr h k _ e1=>by simp(disch:=omega)only[vvB,seval,Hw,e1]) (by decide) (by rw[dO];omega) (qK0) (qK0) (by simp only[Fa,vvB,seval,and_self]) ⟨Nw.refl _,by simp⟩ ?_ ?_) ?_ ?_
 ·intro k _ fr g Q m I w o;obtain⟨f0,f1,-⟩:=w;obtain⟨c,b⟩:=o;obtain⟨x,j⟩:∃x,l[k]?=some x:=⟨_,b! Q⟩
  obtain⟨i,q,cs,e1,ex,L,hi,-,-,y⟩:=(r.nw J c).elt j;obtain⟨g',z,u⟩:=M x cs g (d! j) c ex L;have C:=y g rfl;simp(disch:=omega)only[vvB,seval,H7,H6,f0,f1,m,e1,C,z];by_cases t:p x=true
  ·simp only[vvB,seval,t,HY];refine⟨?_,c.trans u⟩;simp only[vvB,seval];rw[lY j b t];rfl
  ·have d:p x=false:=by simpa using t
   simp only[vvB,seval,d];refine⟨qK2 m,qK2 I,(),by simp only[Fa,vvB,seval,f0,f1,and_self],c.trans u,?_⟩;rw[i!,j];simp[e!,b,d]
 ·intro _ fr g w o;obtain⟨c,b⟩:=o;rw[g!]at b;exact⟨c,b⟩
 ·rintro fr g ⟨c,b⟩;simp only[vvB,seval,Hu];exact aW.ret (qT0) ⟨by rw[b];rfl,c⟩
 ·rintro fr g ⟨G,c⟩;exact aW.ret (qT1 G) ⟨rfl,c⟩
theorem aeR{α:Type}{P:Pos->Prop}{E:El α}{h:Hp}{v f:V}{l:List α}(r:Rws P E 1 h v l)(L:E.Stable)(p:α->Bool)(W:l.length<=1000000000)
  (Q:∀a x g,a∈l->Nw h g->E P g a [x]->∃g',dI pY f [x] g=D (K (p a)) g'/\Nw g g'):
  ∃h',qf [v,f] h=D (Y U (gy (l.findIdx? p))) h'/\Nw h h':=by
 rw[UL]
 suffices T:aW c! [.tmp 4] (λr h'=>r=Y U (gy (l.findIdx? p))/\Nw h h') (qc (T.set (some f) (a! 1) (T.set (some v) (a! 0) T.nil)) h) by
  obtain⟨r,h',e,rfl,c⟩:=T;exact⟨h',e,c⟩
 simp(disch:=omega)only[vvB,seval,qc,CX,CW,r.len,Du];refine Oc.then (dK (σ:=Unit) (n:=l.length) (pi:=8) (pn:=7) (pc:=9) [0,1] (λ_=> [v,f]) (λk _ g=>Nw h g/\(l.take k).findIdx? p=none)
  (A:=λfr g=>Nw h g/\l.findIdx? p=none) (B:=λfr g=>fr.get (a! 4)=some (Y U (gy (l.findIdx? p)))/\Nw h g) (s:=())
  (λfr h _ k e1 e2=>by simp only[vvB,seval,CV,e1,e2]) (λfr h k _ e1=>by simp(disch:=omega)only[vvB,seval,CP,e1]) (by decide) (by rw[dO];omega) (qK0) (qK0) (by simp only[Fa,vvB,seval,and_self]) ⟨Nw.refl _,by simp⟩ ?_ ?_) ?_ ?_
 ·intro k _ fr g S m J w o;obtain⟨f0,f1,-⟩:=w;obtain⟨c,b⟩:=o;obtain⟨x,j⟩:∃x,l[k]?=some x:=⟨_,b! S⟩
  obtain⟨i,q,cs,e1,ex,M,hi,-,z,-⟩:=(r.nw L c).elt j;obtain⟨y,rfl⟩:=ayg M;obtain⟨g',C,u⟩:=Q x y g (d! j) c ex;have G:aF (X i q) g=D y g:=z g rfl 0 y rfl;simp(disch:=omega)only[vvB,seval,CU,CS,f0,f1,m,e1,G,C];by_cases t:p x=true
  ·simp only[vvB,seval,t,CQ];refine⟨?_,c.trans u⟩;simp only[vvB,seval];rw[lY j b t];rfl
  ·have d:p x=false:=by simpa using t
   simp only[vvB,seval,d];refine⟨qK2 m,qK2 J,(),by simp only[Fa,vvB,seval,f0,f1,and_self],c.trans u,?_⟩;rw[i!,j];simp[e!,b,d]
 ·intro _ fr g w o;obtain⟨c,b⟩:=o;rw[g!]at b;exact⟨c,b⟩
 ·rintro fr g ⟨c,b⟩;simp only[vvB,seval,CO];exact aW.ret (qT0) ⟨by rw[b];rfl,c⟩
 ·rintro fr g ⟨I,c⟩;exact aW.ret (qT1 I) ⟨rfl,c⟩
theorem akq{α:Type}{P:Pos->Prop}{E:El α}{h:Hp}{v f:V}{l:List α}(r:Rws P E 3 h v l)(J:E.Stable)(p:α->Bool)(S:l.length<=1000000000)
  (M:∀a cs g,a∈l->Nw h g->E P g a cs->cs.length=3->∃g',dI uw f [.agg (V.ofList cs)] g=D (K (p a)) g'/\Nw g g'):
  ∃h',uK [v,f] h=D (Y U (gy (l.findIdx? p))) h'/\Nw h h':=by
 rw[Zx]
 suffices T:aW c! [.tmp 4] (λr h'=>r=Y U (gy (l.findIdx? p))/\Nw h h') (uF (T.set (some f) (a! 1) (T.set (some v) (a! 0) T.nil)) h) by
  obtain⟨r,h',e,rfl,c⟩:=T;exact⟨h',e,c⟩
 simp(disch:=omega)only[vvB,seval,uF,G9,G8,r.len,I9];refine Oc.then (dK (σ:=Unit) (n:=l.length) (pi:=8) (pn:=7) (pc:=9) [0,1] (λ_=> [v,f]) (λk _ g=>Nw h g/\(l.take k).findIdx? p=none)
  (A:=λfr g=>Nw h g/\l.findIdx? p=none) (B:=λfr g=>fr.get (a! 4)=some (Y U (gy (l.findIdx? p)))/\Nw h g) (s:=())
  (λfr h _ k e1 e2=>by simp only[vvB,seval,G6,e1,e2]) (λfr h k _ e1=>by simp(disch:=omega)only[vvB,seval,GX,e1]) (by decide) (by rw[dO];omega) (qK0) (qK0) (by simp only[Fa,vvB,seval,and_self]) ⟨Nw.refl _,by simp⟩ ?_ ?_) ?_ ?_
 ·intro k _ fr g Q m I w o;obtain⟨f0,f1,-⟩:=w;obtain⟨c,b⟩:=o;obtain⟨x,j⟩:∃x,l[k]?=some x:=⟨_,b! Q⟩
  obtain⟨i,q,cs,e1,ex,L,hi,-,-,y⟩:=(r.nw J c).elt j;obtain⟨g',z,u⟩:=M x cs g (d! j) c ex L;have C:=y g rfl;simp(disch:=omega)only[vvB,seval,G5,GZ,f0,f1,m,e1,C,z];by_cases t:p x=true
  ·simp only[vvB,seval,t,GY];refine⟨?_,c.trans u⟩;simp only[vvB,seval];rw[lY j b t];rfl
  ·have d:p x=false:=by simpa using t
   simp only[vvB,seval,d];refine⟨qK2 m,qK2 I,(),by simp only[Fa,vvB,seval,f0,f1,and_self],c.trans u,?_⟩;rw[i!,j];simp[e!,b,d]
 ·intro _ fr g w o;obtain⟨c,b⟩:=o;rw[g!]at b;exact⟨c,b⟩
 ·rintro fr g ⟨c,b⟩;simp only[vvB,seval,GV];exact aW.ret (qT0) ⟨by rw[b];rfl,c⟩
 ·rintro fr g ⟨G,c⟩;exact aW.ret (qT1 G) ⟨rfl,c⟩
theorem ahs{α:Type}{P:Pos->Prop}{E:El α}{h:Hp}{v f:V}{l:List α}(r:Rws P E 2 h v l)(J:E.Stable)(p:α->Bool)(S:l.length<=1000000000)
  (M:∀a cs g,a∈l->Nw h g->E P g a cs->cs.length=2->∃g',dI qU f [.agg (V.ofList cs)] g=D (K (p a)) g'/\Nw g g'):
  ∃h',qX [v,f] h=D (Y U (gy (l.findIdx? p))) h'/\Nw h h':=by
 rw[XA]
 suffices T:aW c! [.tmp 4] (λr h'=>r=Y U (gy (l.findIdx? p))/\Nw h h') (qW (T.set (some f) (a! 1) (T.set (some v) (a! 0) T.nil)) h) by
  obtain⟨r,h',e,rfl,c⟩:=T;exact⟨h',e,c⟩
 simp(disch:=omega)only[vvB,seval,qW,FC,FB,r.len,FW];refine Oc.then (dK (σ:=Unit) (n:=l.length) (pi:=8) (pn:=7) (pc:=9) [0,1] (λ_=> [v,f]) (λk _ g=>Nw h g/\(l.take k).findIdx? p=none)
  (A:=λfr g=>Nw h g/\l.findIdx? p=none) (B:=λfr g=>fr.get (a! 4)=some (Y U (gy (l.findIdx? p)))/\Nw h g) (s:=())
  (λfr h _ k e1 e2=>by simp only[vvB,seval,Fz,e1,e2]) (λfr h k _ e1=>by simp(disch:=omega)only[vvB,seval,Fj,e1]) (by decide) (by rw[dO];omega) (qK0) (qK0) (by simp only[Fa,vvB,seval,and_self]) ⟨Nw.refl _,by simp⟩ ?_ ?_) ?_ ?_
 ·intro k _ fr g Q m I w o;obtain⟨f0,f1,-⟩:=w;obtain⟨c,b⟩:=o;obtain⟨x,j⟩:∃x,l[k]?=some x:=⟨_,b! Q⟩
  obtain⟨i,q,cs,e1,ex,L,hi,-,-,y⟩:=(r.nw J c).elt j;obtain⟨g',z,u⟩:=M x cs g (d! j) c ex L;have C:=y g rfl;simp(disch:=omega)only[vvB,seval,Fv,Fq,f0,f1,m,e1,C,z];by_cases t:p x=true
  ·simp only[vvB,seval,t,Fp];refine⟨?_,c.trans u⟩;simp only[vvB,seval];rw[lY j b t];rfl
  ·have d:p x=false:=by simpa using t
   simp only[vvB,seval,d];refine⟨qK2 m,qK2 I,(),by simp only[Fa,vvB,seval,f0,f1,and_self],c.trans u,?_⟩;rw[i!,j];simp[e!,b,d]
 ·intro _ fr g w o;obtain⟨c,b⟩:=o;rw[g!]at b;exact⟨c,b⟩
 ·rintro fr g ⟨c,b⟩;simp only[vvB,seval,Fh];exact aW.ret (qT0) ⟨by rw[b];rfl,c⟩
 ·rintro fr g ⟨G,c⟩;exact aW.ret (qT1 G) ⟨rfl,c⟩
theorem Jp{α:Type}{P:Pos->Prop}{E:El α}{h:Hp}{v f:V}{l:List α}(r:Rws P E 10 h v l)(J:E.Stable)(p:α->Bool)(S:l.length<=1000000000)
  (M:∀a cs g,a∈l->Nw h g->E P g a cs->cs.length=10->∃g',dI iM f [.agg (V.ofList cs)] g=D (K (p a)) g'/\Nw g g'):
  ∃h',jo [v,f] h=D (Y U (gy (l.findIdx? p))) h'/\Nw h h':=by
 rw[AB]
 suffices T:aW c! [.tmp 4] (λr h'=>r=Y U (gy (l.findIdx? p))/\Nw h h') (jT (T.set (some f) (a! 1) (T.set (some v) (a! 0) T.nil)) h) by
  obtain⟨r,h',e,rfl,c⟩:=T;exact⟨h',e,c⟩
 simp(disch:=omega)only[vvB,seval,jT,rW,rV,r.len,su];refine Oc.then (dK (σ:=Unit) (n:=l.length) (pi:=8) (pn:=7) (pc:=9) [0,1] (λ_=> [v,f]) (λk _ g=>Nw h g/\(l.take k).findIdx? p=none)
  (A:=λfr g=>Nw h g/\l.findIdx? p=none) (B:=λfr g=>fr.get (a! 4)=some (Y U (gy (l.findIdx? p)))/\Nw h g) (s:=())
  (λfr h _ k e1 e2=>by simp only[vvB,seval,rU,e1,e2]) (λfr h k _ e1=>by simp(disch:=omega)only[vvB,seval,rJ,e1]) (by decide) (by rw[dO];omega) (qK0) (qK0) (by simp only[Fa,vvB,seval,and_self]) ⟨Nw.refl _,by simp⟩ ?_ ?_) ?_ ?_
 ·intro k _ fr g Q m I w o;obtain⟨f0,f1,-⟩:=w;obtain⟨c,b⟩:=o;obtain⟨x,j⟩:∃x,l[k]?=some x:=⟨_,b! Q⟩
  obtain⟨i,q,cs,e1,ex,L,hi,-,-,y⟩:=(r.nw J c).elt j;obtain⟨g',z,u⟩:=M x cs g (d! j) c ex L;have C:=y g rfl;simp(disch:=omega)only[vvB,seval,rQ,rP,f0,f1,m,e1,C,z];by_cases t:p x=true
  ·simp only[vvB,seval,t,rO];refine⟨?_,c.trans u⟩;simp only[vvB,seval];rw[lY j b t];rfl
  ·have d:p x=false:=by simpa using t
   simp only[vvB,seval,d];refine⟨qK2 m,qK2 I,(),by simp only[Fa,vvB,seval,f0,f1,and_self],c.trans u,?_⟩;rw[i!,j];simp[e!,b,d]
 ·intro _ fr g w o;obtain⟨c,b⟩:=o;rw[g!]at b;exact⟨c,b⟩
 ·rintro fr g ⟨c,b⟩;simp only[vvB,seval,rH];exact aW.ret (qT0) ⟨by rw[b];rfl,c⟩
 ·rintro fr g ⟨G,c⟩;exact aW.ret (qT1 G) ⟨rfl,c⟩
theorem ahr{α:Type}{P:Pos->Prop}{E:El α}{h:Hp}{v f:V}{l:List α}(r:Rws P E 9 h v l)(J:E.Stable)(p:α->Bool)(S:l.length<=1000000000)
  (M:∀a cs g,a∈l->Nw h g->E P g a cs->cs.length=9->∃g',dI yG f [.agg (V.ofList cs)] g=D (K (p a)) g'/\Nw g g'):
  ∃h',nO [v,f] h=D (Y U (gy (l.findIdx? p))) h'/\Nw h h':=by
 rw[Xz]
 suffices T:aW c! [.tmp 4] (λr h'=>r=Y U (gy (l.findIdx? p))/\Nw h h') (qV (T.set (some f) (a! 1) (T.set (some v) (a! 0) T.nil)) h) by
  obtain⟨r,h',e,rfl,c⟩:=T;exact⟨h',e,c⟩
 simp(disch:=omega)only[vvB,seval,qV,Fe,Fb,r.len,FV];refine Oc.then (dK (σ:=Unit) (n:=l.length) (pi:=8) (pn:=7) (pc:=9) [0,1] (λ_=> [v,f]) (λk _ g=>Nw h g/\(l.take k).findIdx? p=none)
  (A:=λfr g=>Nw h g/\l.findIdx? p=none) (B:=λfr g=>fr.get (a! 4)=some (Y U (gy (l.findIdx? p)))/\Nw h g) (s:=())
  (λfr h _ k e1 e2=>by simp only[vvB,seval,E8,e1,e2]) (λfr h k _ e1=>by simp(disch:=omega)only[vvB,seval,EW,e1]) (by decide) (by rw[dO];omega) (qK0) (qK0) (by simp only[Fa,vvB,seval,and_self]) ⟨Nw.refl _,by simp⟩ ?_ ?_) ?_ ?_
 ·intro k _ fr g Q m I w o;obtain⟨f0,f1,-⟩:=w;obtain⟨c,b⟩:=o;obtain⟨x,j⟩:∃x,l[k]?=some x:=⟨_,b! Q⟩
  obtain⟨i,q,cs,e1,ex,L,hi,-,-,y⟩:=(r.nw J c).elt j;obtain⟨g',z,u⟩:=M x cs g (d! j) c ex L;have C:=y g rfl;simp(disch:=omega)only[vvB,seval,EZ,EY,f0,f1,m,e1,C,z];by_cases t:p x=true
  ·simp only[vvB,seval,t,EX];refine⟨?_,c.trans u⟩;simp only[vvB,seval];rw[lY j b t];rfl
  ·have d:p x=false:=by simpa using t
   simp only[vvB,seval,d];refine⟨qK2 m,qK2 I,(),by simp only[Fa,vvB,seval,f0,f1,and_self],c.trans u,?_⟩;rw[i!,j];simp[e!,b,d]
 ·intro _ fr g w o;obtain⟨c,b⟩:=o;rw[g!]at b;exact⟨c,b⟩
 ·rintro fr g ⟨c,b⟩;simp only[vvB,seval,EU];exact aW.ret (qT0) ⟨by rw[b];rfl,c⟩
 ·rintro fr g ⟨G,c⟩;exact aW.ret (qT1 G) ⟨rfl,c⟩
theorem Ou{α:Type}{P:Pos->Prop}{E:El α}{h:Hp}{v f:V}{l:List α}(r:Rws P E 1 h v l)(d:E.Stable)(p:α->Bool)(i:l.length<=1000000000)
  (e:∀a x g,a∈l->Nw h g->E P g a [x]->∃g',dI pO f [x] g=D (K (p a)) g'/\Nw g g'):
  ∃h',jD [v,f] h=D (K (l.any p)) h'/\Nw h h':=by
 obtain⟨c,e1,b⟩:=amA r d p i e;rw[UM];simp(disch:=omega)only[vvB,seval,xw,CZ,CY,e1];exact⟨c,by simp only[aU,cO,vvB,seval,dn];rw[Ef],b⟩
theorem agE{α:Type}{P:Pos->Prop}{E:El α}{h:Hp}{v f:V}{l:List α}(r:Rws P E 6 h v l)(d:E.Stable)(p:α->Bool)(i:l.length<=1000000000)
  (e:∀a cs g,a∈l->Nw h g->E P g a cs->cs.length=6->∃g',dI kP f [.agg (V.ofList cs)] g=D (K (p a)) g'/\Nw g g'):
  ∃h',mP [v,f] h=D (K (l.any p)) h'/\Nw h h':=by
 obtain⟨c,e1,b⟩:=yP r d p i e;rw[UN];simp(disch:=omega)only[vvB,seval,xA,Dp,C9,e1];exact⟨c,by simp only[aU,cO,vvB,seval,dn];rw[Ef],b⟩
theorem ZF{α:Type}{P:Pos->Prop}{E:El α}{h:Hp}{v f:V}{l:List α}(r:Rws P E 1 h v l)(d:E.Stable)(p:α->Bool)(i:l.length<=1000000000)
  (e:∀a x g,a∈l->Nw h g->E P g a [x]->∃g',dI pY f [x] g=D (K (p a)) g'/\Nw g g'):
  ∃h',nM [v,f] h=D (K (l.any p)) h'/\Nw h h':=by
 obtain⟨c,e1,b⟩:=aeR r d p i e;rw[Px];simp(disch:=omega)only[vvB,seval,rZ,y9,y8,e1];exact⟨c,by simp only[aU,cO,vvB,seval,dn];rw[Ef],b⟩
theorem adZ{α:Type}{P:Pos->Prop}{E:El α}{h:Hp}{v f:V}{l:List α}(r:Rws P E 3 h v l)(d:E.Stable)(p:α->Bool)(i:l.length<=1000000000)
  (e:∀a cs g,a∈l->Nw h g->E P g a cs->cs.length=3->∃g',dI uw f [.agg (V.ofList cs)] g=D (K (p a)) g'/\Nw g g'):
  ∃h',lI [v,f] h=D (K (l.any p)) h'/\Nw h h':=by
 obtain⟨c,e1,b⟩:=akq r d p i e;rw[UE];simp(disch:=omega)only[vvB,seval,vP,Bo,Bl,e1];exact⟨c,by simp only[aU,cO,vvB,seval,dn];rw[Ef],b⟩
theorem abX{α:Type}{P:Pos->Prop}{E:El α}{h:Hp}{v f:V}{l:List α}(r:Rws P E 2 h v l)(d:E.Stable)(p:α->Bool)(i:l.length<=1000000000)
  (e:∀a cs g,a∈l->Nw h g->E P g a cs->cs.length=2->∃g',dI qU f [.agg (V.ofList cs)] g=D (K (p a)) g'/\Nw g g'):
  ∃h',ou [v,f] h=D (K (l.any p)) h'/\Nw h h':=by
 obtain⟨c,e1,b⟩:=ahs r d p i e;rw[QX];simp(disch:=omega)only[vvB,seval,uV,Ae,Ad,e1];exact⟨c,by simp only[aU,cO,vvB,seval,dn];rw[Ef],b⟩
theorem ak8{h:Hp}{f:Bool}{im:Pos}{a:List (List V)}{rest:List V}{i:Nat}(z:Kn h im (O (N 248 f) (a.flatten++rest)))(m:∀c∈a,c.length=3)(hi:i<a.length)(L:a.length<=1000000):
  ∃h' b,lH [.slice im 0 a.length (.un 3),Y U (i:Int),Y U ((i:Int)+1)] h=D (.slice im 0 (a.length - 1) (.un 3)) h'/\Kn h' im (O (N 248 f) ((a.eraseIdx i).flatten++b))/\Ch (λj=>j=im) h h':=by
 obtain⟨x,J,mid,E,a1,v,t,o⟩:=aBb (bt:=24) z m (by omega) hi;have l:∀c∈a.eraseIdx i,c.length=3:=λc s=>m c (List.mem_of_mem_eraseIdx s);have e:(a.eraseIdx i).flatten.length=(a.length - 1)*3:=by rw[iQ l,List.length_eraseIdx_of_lt hi]
 obtain⟨y,r,u,s2,I,w,p⟩:=aCT (zs:= [(Y U 0),(Y U 0),.bY]) v e t rfl (by omega);have d:((a.length - 1:Nat):Int)+1=(a.length:Int):=by omega
 rw[d]at s2;have C:eU 3 (.slice im 0 a.length (.un 3)) (some (Y U (i:Int))) (some (Y U ((i:Int)+1))) (some (Y U (a.length:Int))) h=D (.slice im (moved 3 0 i a.length) (i+1 - i) (.kn (a.length - i))) h:=by
  show(match r! a.length a.length,r! (i+1) a.length,r! i (i+1) with
   |true,true,true=>fA (moved 3 0 i a.length) λq=>fA (i+1 - i) λn=>R.ok (V.slice im q n (.kn (a.length - i))) h
   |_,_,_=>.bad)=_
  rw[k! (h! _),k! (show i+1<=a.length from hi),k! (Nat.le_succ i)];simp only[dF]
 have G:eU 3 (.slice im 0 a.length (.un 3)) none (some (Y U (i:Int))) none h=D (.slice im 0 i (.un 3)) h:=by
  show(match r! i a.length,r! 0 i,Nat.beq 3 3 with
     |true,true,true=>R.ok (V.slice im 0 i (.un 3)) h
     |_,_,_=>R.bad)=_
  rw[k! (Nat.le_of_lt hi),k! (u! i)]
 have k:((i:Int)=(i:Int)+1)=False:=eq_false (by omega);have B:∀(n:Nat) (g:Hp),aZ 2 (.slice im 0 n (.un 3)) g=D (Y U (n:Int)) g:=λ_ _=>rfl;rw[Zz];simp(disch:=omega)only[vvB,seval,Au,Io,Il,Ij,Ii,Ih,Ig,Ie,B,C,k,G,E,a1,s2,I];exact⟨r,[(Y U 0),(Y U 0),.bY]++rest,by simp only[aU,cO,vvB,seval,dn]<;>rfl,w,o.trans p λ_ _ q=>q⟩
theorem arP(x:Int)(h:Hp):nG [iV x] h=D (K false) h:=by
 rw[UH];simp only[vvB,seval,Eb,IL,IK,not_true];simp only[aU,cO,vvB,seval,dn]
theorem agF(x y:Int)(h:Hp):Jk [iV x,iV y] h=D (K (ltI x y)) h:=by
 rw[an8];simp only[vvB,seval,Uu,Zl,Zk,arP];simp only[aU,cO,vvB,seval,dn]<;>rfl
theorem adN{h:Hp}{i:Pos}{f:Bool}{l:List Int}(W:Kn h i (O (N 3 f) (l.map iV)))(hn:l.length<=1000):
  ∃u h',iI [.slice i 0 l.length (.un 1),Y U 0,Y U (l.length:Int)] h=D u h'/\Kn h' i (O (N 3 f) ((iW ltI l.length l).map iV))/\Ch (λj=>j=i) h h':=by
 rw[rE]
 suffices T:aW c! [] (λu h'=>Kn h' i (O (N 3 f) ((iW ltI l.length l).map iV))/\Ch (λj=>j=i) h h') (gG (T.set (some (Y U (l.length:Int))) (a! 2) (T.set (some (Y U 0)) (a! 1) (T.set (some (.slice i 0 l.length (.un 1))) (a! 0) T.nil))) h) by
  obtain⟨u,h',e,q⟩:=T;exact⟨u,h',e,q⟩
 by_cases hz:l.length=0
 ·simp(disch:=omega)only[vvB,seval,gG,jO];refine Oc.out (dW (n:=0) (λm fr g=>fr.get (a! 6)=some (Y U 1)/\fr.get (a! 2)=some (Y U (l.length:Int))/\g=h) (A:=λfr g=>g=h) (B:=λ_ _=>False) (by rw[dO];omega) ⟨qK1,qK0,rfl⟩ ?_) ?_ ?_
  ·rintro m fr g ⟨b,f2,rfl⟩;simp(disch:=omega)only[vvB,seval,iZ,iY,b,f2];exact⟨rfl,rfl⟩
  ·rintro fr g rfl;refine aW.nor (qT0) ⟨?_,Ch.refl _ _⟩;rw[hz];exact W
  ·intro fr g q;exact q.elim
 have L:∀{g:Hp} {m:List Int} {j:Nat} {x:Int},Kn g i (O (N 3 f) (m.map iV))->m[j]?=some x->aF (X i j) g=D (iV x) g:=λk e=>k.ld (by rw[o!,e];rfl);have St:∀{g:Hp} {m:List Int} {j:Nat} (x:Int),Kn g i (O (N 3 f) (m.map iV))->j<m.length->aQ 1 (X i j) (iV x) g=D V.undef (g.put i (some (O (N 3 f) ((m.set j x).map iV)))):=λ{g m j} x k e=>by
  rw[k.st ⟨rfl,rfl⟩ (by rw[q!];exact e),w!]
 have E:∀(g:Hp) (j:Nat),j<l.length->aX 1 (.slice i 0 l.length (.un 1)) (Y U (j:Int)) g=D (X i j) g:=λg j e=>by rw[yw e,p!,x!]
 simp(disch:=omega)only[vvB,seval,gG,jO];refine Oc.out (dW (n:=l.length - 1) (λm fr g=>∃k:Nat,1<=k/\k+m=l.length/\fr.get (a! 6)=some (Y U (k:Int))/\fr.get (a! 2)=some (Y U (l.length:Int))/\fr.get (a! 1)=some (Y U 0)/\fr.get (a! 0)=some (.slice i 0 l.length (.un 1))/\
   Kn g i (O (N 3 f) ((iW ltI k l).map iV))/\Ch (λj=>j=i) h g) (A:=λfr g=>Kn g i (O (N 3 f) ((iW ltI l.length l).map iV))/\Ch (λj=>j=i) h g) (B:=λ_ _=>False) (by rw[dO];omega) ?_ ?_) ?_ ?_
 ·exact⟨1,by omega,by omega,qK1,qK0,qK0,qK0,W,Ch.refl _ _⟩
 ·rintro m fr g ⟨k,h1,hk,b,f2,f1,f0,a,d⟩;by_cases hm:m=0
  ·simp(disch:=omega)only[vvB,seval,iZ,iY,b,f2];rw[show k=l.length by omega]at a;exact⟨rfl,a,d⟩
  simp(disch:=omega)only[vvB,seval,iZ,iY,tJ,b,f2];refine Oc.out (Q:=λo=>LS _ _ _ _ (qQ (Bz 1 o) mD)) (dW (n:=k) (λj fr g=>∃t:List Int,t.length=l.length/\aaB ltI j t=iW ltI (k+1) l/\fr.get (a! 7)=some (Y U (j:Int))/\fr.get (a! 6)=some (Y U (k:Int))/\fr.get (a! 2)=some (Y U (l.length:Int))/\fr.get (a! 1)=some (Y U 0)/\fr.get (a! 0)=some (.slice i 0 l.length (.un 1))/\
   Kn g i (O (N 3 f) (t.map iV))/\Ch (λj=>j=i) h g/\j<l.length) (A:=λfr g=>fr.get (a! 6)=some (Y U (k:Int))/\fr.get (a! 2)=some (Y U (l.length:Int))/\fr.get (a! 1)=some (Y U 0)/\fr.get (a! 0)=some (.slice i 0 l.length (.un 1))/\Kn g i (O (N 3 f) ((iW ltI (k+1) l).map iV))/\Ch (λj=>j=i) h g) (B:=λ_ _=>False) (by rw[dO];omega) ?_ ?_) ?_ ?_
  ·exact⟨iW ltI k l,AX _ _ _,rfl,qK0,qK2 b,qK2 f2,qK2 f1,qK2 f0,a,d,by omega⟩
  ·rintro j fr g ⟨t,ht,hb,w,b,f2,f1,f0,a,d,hj⟩;cases j with
   |zero=>
    simp(disch:=omega)only[vvB,seval,jQ,jM,w,f1,v!];exact⟨rfl,qK2 b,qK2 f2,qK2 f1,qK2 f0,by rw[<-hb];exact a,d⟩
   |succ j=>
    obtain⟨x,M⟩:∃x,t[j+1]?=some x:=⟨_,b! (by omega)⟩
    obtain⟨y,P⟩:∃y,t[j]?=some y:=⟨_,b! (by omega)⟩
    have c:((j+1:Nat):Int) - 1=(j:Int):=by omega
    have C:=λg=>E g (j+1) hj;have z:=λg=>E g j (by omega);have I:=L a M;have G:=L a P;unfold aaB at hb;rw[M,P]at hb;by_cases r:ltI x y=true
    ·obtain⟨v,p⟩:∃v,v=g.put i (some (O (N 3 f) ((t.set (j+1) y).map iV))):=⟨_,rfl⟩
     have J:=St (j:=j+1) y a (by omega);rw[<-p]at J;have Z:Kn v i (O (N 3 f) ((t.set (j+1) y).map iV)):=by rw[p];exact a.put _
     have c1:Ch (λj=>j=i) g v:=by rw[p];exact Ch.put _ _ rfl
     have S2:=St (j:=j) x Z (by simp;omega);simp(disch:=omega)only[vvB,seval,jQ,jM,tH,tC,w,f1,f0,c,C,z,I,G,agF,r,J,S2];simp only[r]at hb;exact⟨j,by omega,(t.set (j+1) y).set j x,by simp[ht],hb,qK0,qK2 b,qK2 f2,qK2 f1,qK2 f0,Z.put _,(d.trans c1 λ_ _ q=>q).trans (Ch.put (S:=λj=>j=i) _ _ rfl) λ_ _ q=>q,by omega⟩
    ·have s:ltI x y=false:=by simpa using r
     simp(disch:=omega)only[vvB,seval,jQ,jM,w,f1,f0,c,C,z,I,G,agF,s];simp only[s]at hb;exact⟨rfl,qK2 b,qK2 f2,qK2 f1,qK2 f0,by rw[<-hb];exact a,d⟩
  ·rintro fr g ⟨b,f2,f1,f0,a,d⟩;simp(disch:=omega)only[vvB,seval,mD,b];exact⟨m - 1,by omega,k+1,by omega,by omega,qK1,qK2 f2,qK2 f1,qK2 f0,a,d⟩
  ·intro fr g q;exact q.elim
 ·rintro fr g ⟨a,d⟩;exact aW.nor (qT0) ⟨a,d⟩
 ·intro fr g q;exact q.elim
theorem ahQ{h h':Hp}{v u:V}{n:Nat}(hl:aZ 2 v h=D (Y U (n:Int)) h)(f:n<=12)(e:iI [v,Y U 0,Y U (n:Int)] h=D u h'):oK [v] h=D V.undef h':=by
 obtain⟨k,b,-⟩:=Wy h (n:=n) (by omega);have cu:jV .u64 (Y U (n:Int)) h=D (Y .u64 (n:Int)) h:=aj2 (by omega) (by omega);have d:∃a,oq [v,Y U 0,Y U (n:Int),Y U k] h=D a h':=by
  rw[QW]
  suffices T:aW c! [] (λu g=>g=h') (oh (T.set (some (Y U k)) (a! 3) (T.set (some (Y U (n:Int))) (a! 2) (T.set (some (Y U 0)) (a! 1) (T.set (some v) (a! 0) T.nil)))) h) by
   obtain⟨u,g,e2,rfl⟩:=T;exact⟨u,e2⟩
  simp(disch:=omega)only[vvB,seval,oh,zZ,zY];refine Oc.out (dW (n:=0) (λm fr g=>fr.get (a! 0)=some v/\fr.get (a! 1)=some (Y U 0)/\fr.get (a! 2)=some (Y U (n:Int))/\g=h) (A:=λ_ _=>False) (B:=λfr g=>g=h') (by rw[dO];omega) ⟨qK0,qK0,qK0,rfl⟩ ?_) ?_ ?_
  ·rintro m fr g ⟨f0,f1,f2,rfl⟩;simp(disch:=omega)only[vvB,seval,Az,zX,zW,zV,f0,f1,f2,n!,e];rfl
  ·intro fr g q;exact q.elim
  ·rintro fr g rfl;exact aW.ret (qT0) rfl
 obtain⟨a,c⟩:=d;rw[an6];simp(disch:=omega)only[vvB,seval,Ut,Zh,Zg,hl,cu,b,c];rfl
theorem ahR{h:Hp}{v:V}(hl:aZ 2 v h=D (Y U 0) h):oK [v] h=D V.undef h:=by
 have key:∃u,iI [v,Y U 0,Y U ((0:Nat):Int)] h=D u h:=by
  rw[rE]
  suffices T:aW c! [] (λu h'=>h'=h) (gG (T.set (some (Y U ((0:Nat):Int))) (a! 2) (T.set (some (Y U 0)) (a! 1) (T.set (some v) (a! 0) T.nil))) h) by
   obtain⟨u,h',e,rfl⟩:=T;exact⟨u,e⟩
  simp(disch:=omega)only[vvB,seval,gG,jO];refine Oc.out (dW (n:=0) (λm fr g=>fr.get (a! 6)=some (Y U 1)/\fr.get (a! 2)=some (Y U ((0:Nat):Int))/\g=h) (A:=λfr g=>g=h) (B:=λ_ _=>False) (by rw[dO];omega) ⟨qK1,qK0,rfl⟩ ?_) ?_ ?_
  ·rintro m fr g ⟨a,f2,rfl⟩;simp(disch:=omega)only[vvB,seval,iZ,iY,a,f2];exact⟨rfl,rfl⟩
  ·rintro fr g rfl;exact aW.nor (qT0) rfl
  ·intro fr g q;exact q.elim
 obtain⟨u,e⟩:=key;exact ahQ (n:=0) hl (u! _) e
theorem amw{h:Hp}{b:Nat}{P:Pos->Prop}{v:V}{l:List Int}(r:dA b P (flat fH) 3 1 h v l)(k:l.length<=12):
  ∃h',oK [v] h=D V.undef h'/\dA b P (flat fH) 3 1 h' v (iW ltI l.length l)/\Ch (λj=>bC v=some j) h h':=by
 have hl:=r.len h;by_cases a:l= []
 ·subst a;exact⟨h,ahR hl,r,Ch.refl _ _⟩
 ·obtain⟨i,f,rfl,hb,d⟩:=r.open a;have e1:(l.map fH).flatten=l.map iV:=LD l;rw[e1]at d;obtain⟨u,h',e,m,g⟩:=adN d (by omega);refine⟨h',ahQ hl k e,?_,g.mono λj _ q=>by rw[q];rfl⟩;have:=dA.mk (P:=P) (b:=b) (c:=fH) (w:=1) (el:=3) (f:=f) (l:=iW ltI l.length l) (λ_=>rfl) hb (by rw[show((iW ltI l.length l).map fH).flatten=(iW ltI l.length l).map iV from LD _];exact m)
  rw[AX]at this;exact this
theorem adL{h:Hp}{v:V}{P:Pos->Prop}{E:El Int}{l:List Int}(r:Rws P E 1 h v l)(a:l.length<=1):oP [v] h=D v h:=by
 rw[Om];simp(disch:=omega)only[vvB,seval,uH,BL,BK,PK,r.len];simp only[aU,cO,vvB,seval,dn]<;>rfl
theorem arO{h:Hp}{v:V}{P:Pos->Prop}{l:List Int}(r:Rws P (flat fH) 1 h v l)(hl:l.length<=1000)(E:∀(k:Nat) x y,l[k]?=some x->l[k+1]?=some y->x≠y):oP [v] h=D v h:=by
 by_cases z:l.length<=1
 ·exact adL r z
 rw[Om]
 suffices T:aW c! [.tmp 2] (λw h'=>w=v/\h'=h) (uH (T.set (some v) (a! 0) T.nil) h) by
  obtain⟨w,h',e,rfl,rfl⟩:=T;exact e
 simp(disch:=omega)only[vvB,seval,uH,BL,BK,PI,r.len];refine Oc.then (dW (n:=l.length - 1) (λm fr g=>∃k:Nat,k+1+m=l.length/\fr.get (a! 0)=some v/\fr.get (a! 3)=some (Y U ((k:Int)+1))/\g=h) (A:=λfr g=>fr.get (a! 0)=some v/\g=h) (B:=λ_ _=>False) (by rw[dO];omega) ⟨0,by omega,qK0,qK1,rfl⟩ ?_) ?_ ?_
 ·rintro m fr g ⟨k,G,f0,f3,rfl⟩;by_cases I:m=0
  ·simp(disch:=omega)only[vvB,seval,Cc,BJ,f0,f3,r.len];exact⟨rfl,qK2 f0,rfl⟩
  ·obtain⟨x,f⟩:∃x,l[k]?=some x:=⟨_,b! (by omega)⟩
   obtain⟨y,j⟩:∃y,l[k+1]?=some y:=⟨_,b! (by omega)⟩
   obtain⟨i,q,cs,e1,ex,-,-,-,e2,-⟩:=r.elt f;obtain rfl:cs=fH x:=ex;obtain⟨i',o,a,b,u,-,-,-,c,-⟩:=r.elt j;obtain rfl:a=fH y:=u;have s:aF (X i q) g=D (iV x) g:=e2 g rfl 0 _ rfl;have t:aF (X i' o) g=D (iV y) g:=c g rfl 0 _ rfl;have p:∀g,aX 1 v (Y U ((k:Int)+1)) g=D (X i' o) g:=λg=>b g;have C:(k:Int)+1 - 1=(k:Int):=by omega
   have d:(y=x)=False:=eq_false λe=>E k x y f j e.symm;simp(disch:=omega)only[vvB,seval,Cc,BJ,PE,PG,f0,f3,r.len,p,t,C,e1,s,d];exact⟨m - 1,by omega,k+1,by omega,qK2 f0,qK1,rfl⟩
 ·rintro fr g ⟨f0,rfl⟩;simp(disch:=omega)only[vvB,seval,NP,f0];exact aW.ret (qT0) ⟨rfl,rfl⟩
 ·intro fr g q;exact q.elim
theorem ala(x:(List Nat))(h:Hp):qP [H x] h=D (K false) h:=by
 rw[adY];simp only[vvB,seval,EF,NT,NS,not_true];simp only[aU,cO,vvB,seval,dn]
theorem Wj(x y:(List Nat))(h:Hp):zA [H x,H y] h=D (K (lK x y)) h:=by
 rw[agB];simp only[vvB,seval,IV,PS,PO,ala,atl];simp only[aU,cO,vvB,seval,dn]<;>rfl
theorem WA{h:Hp}{i:Pos}{f:Bool}{l:List (List Nat)}(W:Kn h i (O (N 9 f) (l.map H)))(hn:l.length<=1000):
  ∃u h',gI [.slice i 0 l.length (.un 1),Y U 0,Y U (l.length:Int)] h=D u h'/\Kn h' i (O (N 9 f) ((iW lK l.length l).map H))/\Ch (λj=>j=i) h h':=by
 rw[pU]
 suffices T:aW c! [] (λu h'=>Kn h' i (O (N 9 f) ((iW lK l.length l).map H))/\Ch (λj=>j=i) h h') (fK (T.set (some (Y U (l.length:Int))) (a! 2) (T.set (some (Y U 0)) (a! 1) (T.set (some (.slice i 0 l.length (.un 1))) (a! 0) T.nil))) h) by
  obtain⟨u,h',e,q⟩:=T;exact⟨u,h',e,q⟩
 by_cases hz:l.length=0
 ·simp(disch:=omega)only[vvB,seval,fK,jw];refine Oc.out (dW (n:=0) (λm fr g=>fr.get (a! 6)=some (Y U 1)/\fr.get (a! 2)=some (Y U (l.length:Int))/\g=h) (A:=λfr g=>g=h) (B:=λ_ _=>False) (by rw[dO];omega) ⟨qK1,qK0,rfl⟩ ?_) ?_ ?_
  ·rintro m fr g ⟨b,f2,rfl⟩;simp(disch:=omega)only[vvB,seval,iG,iE,b,f2];exact⟨rfl,rfl⟩
  ·rintro fr g rfl;refine aW.nor (qT0) ⟨?_,Ch.refl _ _⟩;rw[hz];exact W
  ·intro fr g q;exact q.elim
 have L:∀{g:Hp} {m:List (List Nat)} {j:Nat} {x:(List Nat)},Kn g i (O (N 9 f) (m.map H))->m[j]?=some x->aF (X i j) g=D (H x) g:=λk e=>k.ld (by rw[o!,e];rfl);have St:∀{g:Hp} {m:List (List Nat)} {j:Nat} (x:(List Nat)),Kn g i (O (N 9 f) (m.map H))->j<m.length->aQ 1 (X i j) (H x) g=D V.undef (g.put i (some (O (N 9 f) ((m.set j x).map H)))):=λ{g m j} x k e=>by
  rw[k.st ⟨rfl,rfl⟩ (by rw[q!];exact e),w!]
 have E:∀(g:Hp) (j:Nat),j<l.length->aX 1 (.slice i 0 l.length (.un 1)) (Y U (j:Int)) g=D (X i j) g:=λg j e=>by rw[yw e,p!,x!]
 simp(disch:=omega)only[vvB,seval,fK,jw];refine Oc.out (dW (n:=l.length - 1) (λm fr g=>∃k:Nat,1<=k/\k+m=l.length/\fr.get (a! 6)=some (Y U (k:Int))/\fr.get (a! 2)=some (Y U (l.length:Int))/\fr.get (a! 1)=some (Y U 0)/\fr.get (a! 0)=some (.slice i 0 l.length (.un 1))/\
   Kn g i (O (N 9 f) ((iW lK k l).map H))/\Ch (λj=>j=i) h g) (A:=λfr g=>Kn g i (O (N 9 f) ((iW lK l.length l).map H))/\Ch (λj=>j=i) h g) (B:=λ_ _=>False) (by rw[dO];omega) ?_ ?_) ?_ ?_
 ·exact⟨1,by omega,by omega,qK1,qK0,qK0,qK0,W,Ch.refl _ _⟩
 ·rintro m fr g ⟨k,h1,hk,b,f2,f1,f0,a,d⟩;by_cases hm:m=0
  ·simp(disch:=omega)only[vvB,seval,iG,iE,b,f2];rw[show k=l.length by omega]at a;exact⟨rfl,a,d⟩
  simp(disch:=omega)only[vvB,seval,iG,iE,qi,b,f2];refine Oc.out (Q:=λo=>LS _ _ _ _ (qQ (Bz 1 o) kX)) (dW (n:=k) (λj fr g=>∃t:List (List Nat),t.length=l.length/\aaB lK j t=iW lK (k+1) l/\fr.get (a! 7)=some (Y U (j:Int))/\fr.get (a! 6)=some (Y U (k:Int))/\fr.get (a! 2)=some (Y U (l.length:Int))/\fr.get (a! 1)=some (Y U 0)/\fr.get (a! 0)=some (.slice i 0 l.length (.un 1))/\
   Kn g i (O (N 9 f) (t.map H))/\Ch (λj=>j=i) h g/\j<l.length) (A:=λfr g=>fr.get (a! 6)=some (Y U (k:Int))/\fr.get (a! 2)=some (Y U (l.length:Int))/\fr.get (a! 1)=some (Y U 0)/\fr.get (a! 0)=some (.slice i 0 l.length (.un 1))/\Kn g i (O (N 9 f) ((iW lK (k+1) l).map H))/\Ch (λj=>j=i) h g) (B:=λ_ _=>False) (by rw[dO];omega) ?_ ?_) ?_ ?_
  ·exact⟨iW lK k l,AX _ _ _,rfl,qK0,qK2 b,qK2 f2,qK2 f1,qK2 f0,a,d,by omega⟩
  ·rintro j fr g ⟨t,ht,hb,w,b,f2,f1,f0,a,d,hj⟩;cases j with
   |zero=>
    simp(disch:=omega)only[vvB,seval,jy,jv,w,f1,v!];exact⟨rfl,qK2 b,qK2 f2,qK2 f1,qK2 f0,by rw[<-hb];exact a,d⟩
   |succ j=>
    obtain⟨x,M⟩:∃x,t[j+1]?=some x:=⟨_,b! (by omega)⟩
    obtain⟨y,P⟩:∃y,t[j]?=some y:=⟨_,b! (by omega)⟩
    have c:((j+1:Nat):Int) - 1=(j:Int):=by omega
    have C:=λg=>E g (j+1) hj;have z:=λg=>E g j (by omega);have I:=L a M;have G:=L a P;unfold aaB at hb;rw[M,P]at hb;by_cases r:lK x y=true
    ·obtain⟨v,p⟩:∃v,v=g.put i (some (O (N 9 f) ((t.set (j+1) y).map H))):=⟨_,rfl⟩
     have J:=St (j:=j+1) y a (by omega);rw[<-p]at J;have Z:Kn v i (O (N 9 f) ((t.set (j+1) y).map H)):=by rw[p];exact a.put _
     have c1:Ch (λj=>j=i) g v:=by rw[p];exact Ch.put _ _ rfl
     have S2:=St (j:=j) x Z (by simp;omega);simp(disch:=omega)only[vvB,seval,jy,jv,qh,qg,w,f1,f0,c,C,z,I,G,Wj,r,J,S2];simp only[r]at hb;exact⟨j,by omega,(t.set (j+1) y).set j x,by simp[ht],hb,qK0,qK2 b,qK2 f2,qK2 f1,qK2 f0,Z.put _,(d.trans c1 λ_ _ q=>q).trans (Ch.put (S:=λj=>j=i) _ _ rfl) λ_ _ q=>q,by omega⟩
    ·have s:lK x y=false:=by simpa using r
     simp(disch:=omega)only[vvB,seval,jy,jv,w,f1,f0,c,C,z,I,G,Wj,s];simp only[s]at hb;exact⟨rfl,qK2 b,qK2 f2,qK2 f1,qK2 f0,by rw[<-hb];exact a,d⟩
  ·rintro fr g ⟨b,f2,f1,f0,a,d⟩;simp(disch:=omega)only[vvB,seval,kX,b];exact⟨m - 1,by omega,k+1,by omega,by omega,qK1,qK2 f2,qK2 f1,qK2 f0,a,d⟩
  ·intro fr g q;exact q.elim
 ·rintro fr g ⟨a,d⟩;exact aW.nor (qT0) ⟨a,d⟩
 ·intro fr g q;exact q.elim
theorem Yy{h h':Hp}{v u:V}{n:Nat}(hl:aZ 2 v h=D (Y U (n:Int)) h)(f:n<=12)(e:gI [v,Y U 0,Y U (n:Int)] h=D u h'):mM [v] h=D V.undef h':=by
 obtain⟨k,b,-⟩:=Wy h (n:=n) (by omega);have cu:jV .u64 (Y U (n:Int)) h=D (Y .u64 (n:Int)) h:=aj2 (by omega) (by omega);have d:∃a,lQ [v,Y U 0,Y U (n:Int),Y U k] h=D a h':=by
  rw[Ld]
  suffices T:aW c! [] (λu g=>g=h') (lM (T.set (some (Y U k)) (a! 3) (T.set (some (Y U (n:Int))) (a! 2) (T.set (some (Y U 0)) (a! 1) (T.set (some v) (a! 0) T.nil)))) h) by
   obtain⟨u,g,e2,rfl⟩:=T;exact⟨u,e2⟩
  simp(disch:=omega)only[vvB,seval,lM,vZ,vY];refine Oc.out (dW (n:=0) (λm fr g=>fr.get (a! 0)=some v/\fr.get (a! 1)=some (Y U 0)/\fr.get (a! 2)=some (Y U (n:Int))/\g=h) (A:=λ_ _=>False) (B:=λfr g=>g=h') (by rw[dO];omega) ⟨qK0,qK0,qK0,rfl⟩ ?_) ?_ ?_
  ·rintro m fr g ⟨f0,f1,f2,rfl⟩;simp(disch:=omega)only[vvB,seval,wF,vX,vW,vV,f0,f1,f2,n!,e];rfl
  ·intro fr g q;exact q.elim
  ·rintro fr g rfl;exact aW.ret (qT0) rfl
 obtain⟨a,c⟩:=d;rw[agz];simp(disch:=omega)only[vvB,seval,IU,Pz,Py,hl,cu,b,c];rfl
theorem Yz{h:Hp}{v:V}(hl:aZ 2 v h=D (Y U 0) h):mM [v] h=D V.undef h:=by
 have key:∃u,gI [v,Y U 0,Y U ((0:Nat):Int)] h=D u h:=by
  rw[pU]
  suffices T:aW c! [] (λu h'=>h'=h) (fK (T.set (some (Y U ((0:Nat):Int))) (a! 2) (T.set (some (Y U 0)) (a! 1) (T.set (some v) (a! 0) T.nil))) h) by
   obtain⟨u,h',e,rfl⟩:=T;exact⟨u,e⟩
  simp(disch:=omega)only[vvB,seval,fK,jw];refine Oc.out (dW (n:=0) (λm fr g=>fr.get (a! 6)=some (Y U 1)/\fr.get (a! 2)=some (Y U ((0:Nat):Int))/\g=h) (A:=λfr g=>g=h) (B:=λ_ _=>False) (by rw[dO];omega) ⟨qK1,qK0,rfl⟩ ?_) ?_ ?_
  ·rintro m fr g ⟨a,f2,rfl⟩;simp(disch:=omega)only[vvB,seval,iG,iE,a,f2];exact⟨rfl,rfl⟩
  ·rintro fr g rfl;exact aW.nor (qT0) rfl
  ·intro fr g q;exact q.elim
 obtain⟨u,e⟩:=key;exact Yy (n:=0) hl (u! _) e
theorem arq{h:Hp}{b:Nat}{P:Pos->Prop}{v:V}{l:List (List Nat)}(r:dA b P (flat fF) 9 1 h v l)(k:l.length<=12):
  ∃h',mM [v] h=D V.undef h'/\dA b P (flat fF) 9 1 h' v (iW lK l.length l)/\Ch (λj=>bC v=some j) h h':=by
 have hl:=r.len h;by_cases a:l= []
 ·subst a;exact⟨h,Yz hl,r,Ch.refl _ _⟩
 ·obtain⟨i,f,rfl,hb,d⟩:=r.open a;have e1:(l.map fF).flatten=l.map H:=LD l;rw[e1]at d;obtain⟨u,h',e,m,g⟩:=WA d (by omega);refine⟨h',Yy hl k e,?_,g.mono λj _ q=>by rw[q];rfl⟩;have:=dA.mk (P:=P) (b:=b) (c:=fF) (w:=1) (el:=9) (f:=f) (l:=iW lK l.length l) (λ_=>rfl) hb (by rw[show((iW lK l.length l).map fF).flatten=(iW lK l.length l).map H from LD _];exact m)
  rw[AX]at this;exact this
theorem ak9{h:Hp}{v:V}{P:Pos->Prop}{E:El (List Nat)}{l:List (List Nat)}(r:Rws P E 1 h v l)(a:l.length<=1):uM [v] h=D v h:=by
 rw[ZA];simp(disch:=omega)only[vvB,seval,Aw,IB,IA,Iz,r.len];simp only[aU,cO,vvB,seval,dn]<;>rfl
def kE{α:Type}(e:FuncId->Option Fun)(P:Pos->Prop)(E:El α)(h:Hp)(f:V)(l:List α):Prop:=
 ∀(g:Hp) (i j:Nat) (x y:α) (a b:List V),Nw h g->i<j->l[i]?=some x->l[j]?=some y->E P g x a->E P g y b->a.length=9->b.length=9->∃g',dI e f [.agg (V.ofList b),.agg (V.ofList a)] g=D (Y U 1) g'/\Nw g g'
theorem ahq{α:Type}{P:Pos->Prop}{E:El α}{h:Hp}{v f:V}{l:List α}(r:Rws P E 9 h v l)(w:E.Stable)(hn:l.length<=1000)(W:kE mG P E h f l):
  ∃u h',jR [v,Y U 0,Y U (l.length:Int),f] h=D u h'/\Nw h h':=by
 rw[Dx]
 suffices T:aW c! [] (λu h'=>Nw h h') (jP (T.set (some f) (a! 3) (T.set (some (Y U (l.length:Int))) (a! 2) (T.set (some (Y U 0)) (a! 1) (T.set (some v) (a! 0) T.nil)))) h) by
  obtain⟨u,h',e,c⟩:=T;exact⟨u,h',e,c⟩
 simp(disch:=omega)only[vvB,seval,jP,qF];refine Oc.out (dW (n:=l.length) (λm fr g=>∃k:Nat,l.length<=k+m/\fr.get (a! 8)=some (Y U ((k:Int)+1))/\fr.get (a! 3)=some f/\fr.get (a! 2)=some (Y U (l.length:Int))/\fr.get (a! 1)=some (Y U 0)/\fr.get (a! 0)=some v/\Nw h g/\k<=l.length) (A:=λfr g=>Nw h g) (B:=λ_ _=>False) (by rw[dO];omega) ?_ ?_) ?_ ?_
 ·exact⟨0,by omega,qK1,qK0,qK0,qK0,qK0,Nw.refl _,by omega⟩
 ·rintro m fr g ⟨k,hk,b,f3,f2,f1,f0,a,Z⟩;by_cases hm:l.length<=k+1
  ·simp(disch:=omega)only[vvB,seval,lD,lq,b,f2];exact⟨rfl,a⟩
  simp(disch:=omega)only[vvB,seval,lD,lq,qE,b,f2];refine Oc.out (Q:=λo=>LS _ _ _ _ (qQ (Bz 1 o) kZ)) (dW (n:=0) (λj fr g'=>fr.get (a! 9)=some (Y U ((k:Int)+1))/\fr.get (a! 8)=some (Y U ((k:Int)+1))/\fr.get (a! 3)=some f/\fr.get (a! 2)=some (Y U (l.length:Int))/\fr.get (a! 1)=some (Y U 0)/\fr.get (a! 0)=some v/\g'=g) (A:=λfr g=>fr.get (a! 8)=some (Y U ((k:Int)+1))/\fr.get (a! 3)=some f/\fr.get (a! 2)=some (Y U (l.length:Int))/\fr.get (a! 1)=some (Y U 0)/\fr.get (a! 0)=some v/\Nw h g) (B:=λ_ _=>False) (by rw[dO];omega) ?_ ?_) ?_ ?_
  ·exact⟨qK0,qK2 b,qK2 f3,qK2 f2,qK2 f1,qK2 f0,rfl⟩
  ·rintro j fr g' ⟨S,b,f3,f2,f1,f0,rfl⟩;obtain⟨x,z⟩:∃x,l[k]?=some x:=⟨_,b! (by omega)⟩
   obtain⟨y,C⟩:∃y,l[k+1]?=some y:=⟨_,b! (by omega)⟩
   obtain⟨i,q,I,e1,ex,lx,-,-,-,n1⟩:=(r.nw w a).elt z;obtain⟨i',q',J,e2,M,ly,-,-,-,n2⟩:=(r.nw w a).elt C;have s:=n1 g' rfl;have t:=n2 g' rfl;have p:∀g,aX 9 v (Y U ((k:Int)+1)) g=D (X i' q') g:=λg=>e2 g;have d:(k:Int)+1 - 1=(k:Int):=by omega
   obtain⟨g2,L,G⟩:=W g' k (k+1) x y I J a (by omega) z C ex M lx ly;simp(disch:=omega)only[vvB,seval,qM,qC,S,f1,f0,f3,p,t,d,e1,s,L];exact⟨rfl,qK2 b,qK2 f3,qK2 f2,qK2 f1,qK2 f0,a.trans G⟩
  ·rintro fr g ⟨b,f3,f2,f1,f0,a⟩;simp(disch:=omega)only[vvB,seval,kZ,b];exact⟨m - 1,by omega,k+1,by omega,qK1,qK2 f3,qK2 f2,qK2 f1,qK2 f0,a,by omega⟩
  ·intro fr g q;exact q.elim
 ·rintro fr g a;exact aW.nor (qT0) a
 ·intro fr g q;exact q.elim
theorem KD{α:Type}{P:Pos->Prop}{E:El α}{h:Hp}{v f s:V}{l:List α}(r:Rws P E 9 h v l)(I:E.Stable)(u:kE iT P E h f l){i j:Nat}(a:i<j)(w:j<l.length):
  ∃h',jB [v,Y U (i:Int),Y U (j:Int),s,f] h=D (.tuple (.cons (Y U (i:Int)) (.cons (Y U (j:Int)) .nil))) h'/\Nw h h':=by
 obtain⟨x,d⟩:∃x,l[i]?=some x:=⟨_,b! (by omega)⟩
 obtain⟨y,e⟩:∃y,l[j]?=some y:=⟨_,b! w⟩
 obtain⟨p,q,k,e1,ex,z,-,-,-,C⟩:=r.elt d;obtain⟨J,L,m,e2,o,B,-,-,-,G⟩:=r.elt e;have b:=C h rfl;have c:=G h rfl;obtain⟨t,n,g⟩:=u h i j x y k m (Nw.refl _) a d e ex o z B;rw[Pq];simp(disch:=omega)only[vvB,seval,rX,yT,yR,yQ,e2,c,e1,b,n];exact⟨t,by simp only[aU,cO,vvB,seval,dn]<;>rfl,g⟩
theorem apj{α:Type}{P:Pos->Prop}{E:El α}{h:Hp}{v f s:V}{l:List α}(r:Rws P E 9 h v l)(a:E.Stable)(o:kE iT P E h f l){i j k:Nat}(d:i<j)(m:j<k)(B:k<l.length):
  ∃h',nK [v,Y U (i:Int),Y U (j:Int),Y U (k:Int),s,f] h=D (Y U (j:Int)) h'/\Nw h h':=by
 have n:∀{g},Nw h g->kE iT P E g f l:=λc g' i j x y t u p=>o g' i j x y t u (c.trans p);obtain⟨C,e1,b⟩:=KD (s:=s) r a o d (by omega);obtain⟨G,e2,e⟩:=KD (s:=s) (r.nw a b) a (n b) m B;obtain⟨z,w,q⟩:=KD (s:=s) ((r.nw a b).nw a e) a (n (b.trans e)) d (by omega);rw[Pv];simp(disch:=omega)only[vvB,seval,rY,yZ,yY,yX,yV,yU,e1,e2,w];exact⟨z,by simp only[aU,cO,vvB,seval,dn]<;>rfl,(b.trans e).trans q⟩
theorem ad1{α:Type}{P:Pos->Prop}{E:El α}{h:Hp}{v f:V}{l:List α}(r:Rws P E 9 h v l)(z:E.Stable)(Q:kE iT P E h f l)(h8:8<=l.length)(M:l.length<50):
  ∃p h',kK [v,Y U 0,Y U (l.length:Int),f] h=D (.tuple (.cons p (.cons (Y U 1) .nil))) h'/\Nw h h':=by
 obtain⟨h1,o,m,W⟩:=mkW h (O (N fZ true) [Y U 0]);have J:∀{g},Nw h g->kE iT P E g f l:=λc g' i j x y G I C=>Q g' i j x y G I (c.trans C);obtain⟨q,hq⟩:∃q:Nat,q=l.length / 4:=⟨_,rfl⟩
 have t:1<=q/\q*3<l.length:=by omega
 obtain⟨L,e2,w⟩:=apj (s:=X h.next 0) (r.nw z m) z (J m) (i:=q*1) (j:=q*2) (k:=q*3) (by omega) (by omega) t.2;have Z:∀g,aI .quo .none (Y U (l.length:Int)) (Y U 4) g=D (Y U (q:Int)) g:=λg=>by
  have e:Int.tdiv (l.length:Int) 4=(q:Int):=by rw[Int.tdiv_eq_ediv_of_nonneg (by omega)];omega
  rw[atn (by omega) (by rw[e];omega) (by rw[e];omega),e]
 have u:∀g (n:Nat),n<=3->aI .mul .none (Y U (q:Int)) (Y U (n:Int)) g=D (Y U ((q*n:Nat):Int)) g:=λg n S=>by
  have e:(q:Int)*(n:Int)=((q*n:Nat):Int):=by simp
  have:q*n<=q*3:=Nat.mul_le_mul_left _ S;rw[atp (by rw[e];omega) (by rw[e];omega),e]
 have a:=λg=>u g 1 (by omega);have b:=λg=>u g 2 (by omega);have d:=λg=>u g 3 (by omega);simp only[Int.natCast_one,show((2:Nat):Int)=2 from rfl,show((3:Nat):Int)=3 from rfl]at a b d;have B:=(W.nw w).ld (q:=0) (x:=Y U 0) rfl;rw[F6];simp(disch:=omega)only[vvB,seval,nX,uq,uo,um,uj,uh,ug,uf,tZ,rD,rq,qZ,qY,n!,Int.zero_add,<-o,Z,a,b,d,e2,B];exact⟨_,L,by simp only[aU,cO,vvB,seval,dn]<;>rfl,m.trans w⟩
theorem amx{α:Type}{P:Pos->Prop}{E:El α}{h:Hp}{v f:V}{l:List α}(r:Rws P E 9 h v l)(z:E.Stable)(hn:l.length<=1000)(Z:1<=l.length)(hc:kE jS P E h f l):
  ∃h',iP [v,Y U 0,Y U (l.length:Int),f] h=D (K true) h'/\Nw h h':=by
 rw[xE]
 suffices T:aW c! [.tmp 8] (λr h'=>r=K true/\Nw h h') (iO (T.set (some f) (a! 3) (T.set (some (Y U (l.length:Int))) (a! 2) (T.set (some (Y U 0)) (a! 1) (T.set (some v) (a! 0) T.nil)))) h) by
  obtain⟨r,h',e,rfl,c⟩:=T;exact⟨h',e,c⟩
 simp(disch:=omega)only[vvB,seval,iO,nC,ny,ni];refine Oc.then (dW (n:=0) (λm fr g=>fr.get (a! 10)=some (Y U 0)/\fr.get (a! 9)=some (Y U 1)/\fr.get (a! 3)=some f/\fr.get (a! 2)=some (Y U (l.length:Int))/\fr.get (a! 0)=some v/\g=h) (A:=λ_ _=>False) (B:=λfr g=>fr.get (a! 8)=some (K true)/\Nw h g) (by rw[dO];omega) ⟨qK0,qK1,qK0,qK0,qK0,rfl⟩ ?_) ?_ ?_
 ·rintro m fr g ⟨p,b,f3,f2,f0,rfl⟩;simp(disch:=omega)only[vvB,seval,nD,ng,p];refine Oc.out (Q:=λo=>LS _ _ _ _ (qQ (Bz 1 (qQ o _)) mZ)) (dW (n:=l.length) (λm fr g'=>∃k:Nat,k+1+m=l.length+1/\fr.get (a! 9)=some (Y U ((k:Int)+1))/\fr.get (a! 3)=some f/\fr.get (a! 2)=some (Y U (l.length:Int))/\fr.get (a! 0)=some v/\Nw g g'/\k+1<=l.length) (A:=λfr g'=>fr.get (a! 9)=some (Y U (l.length:Int))/\fr.get (a! 2)=some (Y U (l.length:Int))/\Nw g g') (B:=λ_ _=>False) (by rw[dO];omega) ⟨0,by omega,qK3 b,qK2 f3,qK2 f2,qK2 f0,Nw.refl _,Z⟩ ?_) ?_ ?_
  ·rintro m fr g' ⟨k,hk,b,f3,f2,f0,a,aa⟩;by_cases hm:k+1=l.length
   ·have t:((k:Int)+1<(l.length:Int))=False:=eq_false (by omega);simp(disch:=omega)only[vvB,seval,jG,jF,b,f2,t];exact⟨rfl,by simp only[vvB,seval,b];rw[<-hm];rfl,qK2 f2,a⟩
   ·obtain⟨x,C⟩:∃x,l[k]?=some x:=⟨_,b! (by omega)⟩
    obtain⟨y,G⟩:∃y,l[k+1]?=some y:=⟨_,b! (by omega)⟩
    obtain⟨i,q,J,e1,ex,lx,-,-,-,n1⟩:=(r.nw z a).elt C;obtain⟨i',q',L,e2,S,ly,-,-,-,n2⟩:=(r.nw z a).elt G;have u:=n1 g' rfl;have w:=n2 g' rfl;have j:∀g,aX 9 v (Y U ((k:Int)+1)) g=D (X i' q') g:=λg=>e2 g;have d:(k:Int)+1 - 1=(k:Int):=by omega
    have s:((1:Int)<0)=False:=eq_false (by decide);obtain⟨g2,M,I⟩:=hc g' k (k+1) x y J L a (by omega) C G ex S lx ly;simp(disch:=omega)only[vvB,seval,jG,jF,mY,b,f2,f0,f3,j,w,d,e1,u,M,s];exact⟨m - 1,by omega,k+1,by omega,qK1,qK2 f3,qK2 f2,qK2 f0,a.trans I,by omega⟩
  ·rintro fr g' ⟨b,f2,a⟩;simp(disch:=omega)only[vvB,seval,mX,mW,b,f2];exact⟨qK0,a⟩
  ·intro fr g q;exact q.elim
 ·intro fr g q;exact q.elim
 ·rintro fr g ⟨W,a⟩;exact aW.ret (qT1 W) ⟨rfl,a⟩
theorem akp{α:Type}{P:Pos->Prop}{E:El α}{h:Hp}{v f:V}{l:List α}(r:Rws P E 9 h v l)(a:E.Stable)(hn:l.length<50)(p:kE mG P E h f l)(s:kE iT P E h f l)(t:kE jS P E h f l):
  ∃h',uI [v,f] h=D V.undef h'/\Nw h h':=by
 obtain⟨k,Q,w⟩:=Wy h (n:=l.length) (by omega);have cu:jV .u64 (Y U (l.length:Int)) h=D (Y .u64 (l.length:Int)) h:=aj2 (by omega) (by omega);have pd:∃G h',mO [v,Y U 0,Y U (l.length:Int),Y U k,f] h=D G h'/\Nw h h':=by
  rw[Ol]
  suffices T:aW c! [] (λu g=>Nw h g) (mJ (T.set (some f) (a! 4) (T.set (some (Y U k)) (a! 3) (T.set (some (Y U (l.length:Int))) (a! 2) (T.set (some (Y U 0)) (a! 1) (T.set (some v) (a! 0) T.nil))))) h) by
   obtain⟨u,g,e2,c⟩:=T;exact⟨u,g,e2,c⟩
  simp(disch:=omega)only[vvB,seval,mJ,xW,xU];refine Oc.out (dW (n:=0) (λm fr g=>fr.get (a! 0)=some v/\fr.get (a! 1)=some (Y U 0)/\fr.get (a! 2)=some (Y U (l.length:Int))/\fr.get (a! 3)=some (Y U k)/\fr.get (a! 4)=some f/\fr.get (a! 10)=some (K true)/\fr.get (a! 11)=some (K true)/\g=h) (A:=λ_ _=>False) (B:=λfr g=>Nw h g) (by rw[dO];omega) ⟨qK0,qK0,qK0,qK0,qK0,qK0,qK0,rfl⟩ ?_) ?_ ?_
  ·rintro m fr g ⟨f0,f1,f2,f3,C,d,o,rfl⟩;by_cases Z:l.length<=12
   ·obtain⟨u,W,e,c⟩:=ahq r a (by omega) p;simp(disch:=omega)only[vvB,seval,o9,o8,oZ,xR,f0,f1,f2,C,n!,e];exact c
   ·have hk:=w (by omega);have z:(k=0)=False:=eq_false hk;obtain⟨pp,W,e1,b⟩:=ad1 r a s (by omega) hn;obtain⟨g2,e2,J⟩:=amx (r.nw a b) a (by omega) (by omega) (f:=f) λg' i j x y L M I=>t g' i j x y L M (b.trans I);simp(disch:=omega)only[vvB,seval,o9,o8,oZ,xQ,xP,wB,wz,wu,wo,f0,f1,f2,f3,C,d,o,n!,z,e1,e2];exact b.trans J
  ·intro fr g q;exact q.elim
  ·rintro fr g c;exact aW.ret (qT0) c
 obtain⟨G,h',S,c⟩:=pd;refine⟨h',?_,c⟩;rw[Zu];simp(disch:=omega)only[vvB,seval,Ar,GN,GL,r.len,cu,Q,S];rfl
end Go.Proofs.Im
namespace Go.Vm
section
variable{h:Hp}{i:Pos}
theorem Kn.rws{α:Type}{c:α->List V}{sz:Nat}{w:Wr}{l:List α}{cp:Cap}(k:Kn h i (O w (l.map c).flatten))(m:∀x,(c x).length=sz)(b:yN sz (.slice i 0 l.length cp)):
  Rws (λj=>j=i) (flat c) sz h (.slice i 0 l.length cp) l:=by
 have e:∀d∈l.map c,d.length=sz:=λd hd=>by obtain⟨x,_,rfl⟩:=List.mem_map.1 hd;exact m x
 refine⟨l.map c,?_,e,⟨?_,.inr ⟨i,0,cp,w,_,rfl,k.2,by rw[k.1];rfl,λq _=>by rw[p!]⟩⟩,b,λj f=>by cases f;rfl⟩
 ·clear k b e;induction l with
  |nil=>exact .nil
  |cons a l n=>exact .cons rfl n
 ·rw[iQ e,q!]
end
end Go.Vm
namespace Go.Im
section
variable{tM:TypeId}{I:Pos->Prop}{h:Hp}{v:V}{l:List Ml}
theorem aGB.rws(r:aGB tM I h v l):Rws (λj=>I j\/bC v=some j) kH 8 h v l:=by
 obtain⟨b,a,c,r⟩:=r;have a':All2 (kH (λj=>I j\/bC v=some j) h) l b:=a.mono λ_ _ e=>dB e (Nw.refl h) λj _ q=>⟨.inl q,λq=>q⟩
 rcases r with⟨rfl,rfl⟩|⟨i,f,rest,rfl,k⟩
 ·cases a;exact Rws.aO _ _ _ _
 ·refine⟨b,a',c,⟨by rw[iQ c,a.len],.inr ⟨i,0,_,N tM f,b.flatten++rest,rfl,k.2,by rw[k.1];rfl,λq m=>?_⟩⟩,λ_ _ _ _ e=>(by cases e;rfl),λj d=>.inr d⟩;rw[p!,List.getElem?_append_left];rw[iQ c,a.len];exact m
end
end Go.Im
namespace Go.Proofs.Im
section
variable{h h' g:Hp}{F I:Pos->Prop}{ps pl ib:Pos}{A:Acc}{cb:Cap}{fb:Bool}{vm vl:V}
abbrev dJ(h:Hp)(F:Pos->Prop)(ps:Pos)(A:Acc)(pl ib:Pos)(cb:Cap)(fb:Bool)(vm vl:V)(I:Pos->Prop):Prop:=AccR tSt tLg tBx tMl tEn h F ps A pl ib cb fb vm vl I
theorem dJ.bxr(a:dJ h F ps A pl ib cb fb vm vl I):Rws (λj=>j=ib) (flat gB) 6 h (.slice ib 0 A.boxes.length cb) A.boxes:=a.bx.rws (λ_=>rfl) a.cap
theorem dJ.ch{S:Pos->Prop}(a:dJ h F ps A pl ib cb fb vm vl I)(c:Ch S h h')(b:∀j,F j->¬S j):dJ h' F ps A pl ib cb fb vm vl I where
 st:=a.st.ch c (b _ a.foot.1)
 lg:=a.lg.ch c (b _ a.foot.2.1)
 bx:=a.bx.ch c (b _ a.foot.2.2.1)
 cap:=a.cap
 ml:=by
  obtain⟨d,x,m,r⟩:=a.ml;exact⟨d,x.mono λ_ _ e=>dB e c λj _ q=>⟨q,b j (a.inn j q).1⟩,m,r.imp id λ⟨i,f,rest,e,k⟩=>⟨i,f,rest,e,k.ch c (b i (a.foot.2.2.2.1 i (by rw[e];rfl)))⟩⟩
 en:=a.en.ch (aK _) c (λj e=>b j (a.foot.2.2.2.2 j e)) λ_ _ q=>q.elim
 ne:=a.ne
 nm:=a.nm
 nl:=a.nl
 inn:=a.inn
 foot:=a.foot
 lt:=λj f=>Nat.lt_of_lt_of_le (a.lt j f) c.next
 enil:=a.enil
theorem dJ.nw(a:dJ h F ps A pl ib cb fb vm vl I)(c:Nw h h'):dJ h' F ps A pl ib cb fb vm vl I:=a.ch c λ_ _ q=>q
theorem aDY{b:Bx}{p:Pos}{n:Int}{w:Wr}(k:Kn g p (O w [iV n])):Oj [.agg (V.ofList (gB b)),X p 0] g=D (K (decide (b.id=n))) (g.new (O (N tBx true) (gB b))):=by
 have e1:=(Kn.new g (O (N tBx true) (gB b))).ld (q:=0) (x:=iV b.id) rfl;have e2:=(k.add (O (N tBx true) (gB b))).ld (q:=0) (x:=iV n) rfl;rw[av2];simp only[vvB,seval,agc,aiL,aiK,V.bW,e1,e2];simp only[aU,cO,vvB,seval,dn]
theorem aBx{m:Ml}{vk vm:V}{p:Pos}{n:Int}{w:Wr}(k:Kn g p (O w [iV n])):Ji [.agg (V.ofList (dM m vk vm)),X p 0] g=D (K (decide (m.id=n))) (g.new (O (N tMl true) (dM m vk vm))):=by
 have e1:=(Kn.new g (O (N tMl true) (dM m vk vm))).ld (q:=0) (x:=iV m.id) rfl;have e2:=(k.add (O (N tMl true) (dM m vk vm))).ld (q:=0) (x:=iV n) rfl;rw[arD];simp only[vvB,seval,abh,ae4,ae3,V.bW,e1,e2];simp only[aU,cO,vvB,seval,dn]
theorem aBn(p:Pos)(x:V)(g:Hp):dI kP (.func (.func ast) .nil (.cons (X p 0) .nil)) [x] g=Oj [x,X p 0] g:=(rfl)
theorem awP(p:Pos)(x:V)(g:Hp):dI uz (.func (.func ap4) .nil (.cons (X p 0) .nil)) [x] g=Ji [x,X p 0] g:=(rfl)
theorem aaF(a:dJ h F ps A pl ib cb fb vm vl I)(o:A.Small)(n:Int):∃h',EG [X ps 0,iV n] h=D (iV (gy (A.boxes.findIdx? λb=>decide (b.id=n)))) h'/\Nw h h':=by
 obtain⟨r,c,d,p⟩:=mkW h (O (N fZ true) [iV n]);have a1:=a.nw d;have L:=a1.st.ld (q:=10) rfl;obtain⟨m,e2,j⟩:=yP a1.bxr (aK _) (λb=>decide (b.id=n)) (by have:=o.boxes;omega) (f:=.func (.func ast) .nil (.cons (X h.next 0) .nil)) (λb cs g _ k e _=>by
  rw[show cs=gB b from e,aBn,aDY (p.nw k)];exact⟨_,rfl,Nw.new _ _⟩)
 rw[axy];simp only[vvB,seval,akR,anc,anb,<-c,L,e2];exact⟨m,by simp only[aU,cO,vvB,seval,dn],d.trans j⟩
theorem aDW(a:dJ h F ps A pl ib cb fb vm vl I)(p:A.Small)(n:Int):∃h',VW [X ps 0,iV n] h=D (iV (gy (A.mails.findIdx? λm=>decide (m.id=n)))) h'/\Nw h h':=by
 obtain⟨s,c,d,r⟩:=mkW h (O (N fZ true) [iV n]);have a1:=a.nw d;have L:=a1.st.ld (q:=11) rfl;obtain⟨o,e2,j⟩:=Tn a1.ml.rws dB (λm=>decide (m.id=n)) (by have:=p.mails;omega) (f:=.func (.func ap4) .nil (.cons (X h.next 0) .nil)) (λb cs g _ k e _=>by
  obtain⟨vk,vm,rfl,-,-⟩:=e;rw[awP,aBx (r.nw k)];exact⟨_,rfl,Nw.new _ _⟩)
 rw[avX];simp only[vvB,seval,af9,aiC,aiB,<-c,L,e2];exact⟨o,by simp only[aU,cO,vvB,seval,dn],d.trans j⟩
end
section
variable{h h':Hp}{F I:Pos->Prop}{ps pl ib p:Pos}{A:Acc}{cb:Cap}{fb:Bool}{vm vl:V}
theorem Wl{w:Wr}{cs:List V}{q:Nat}{n:Int}(k:Kn h p (O w cs))(a:cs[q]?=some (iV n)):wH [X p q] h=D (iV n) h:=by
 have e:=awU k a;rw[awh];simp only[vvB,seval,agn,ajD,ajC,Lm,t!,e];simp only[aU,cO,vvB,seval,dn]
theorem Jo{t:TypeId}{f:Bool}{cs:List V}{q:Nat}{n:Int}(k:Kn h p (O (N t f) cs))(a:q<cs.length):∃u,mQ [X p q,iV n] h=D u (h.put p (some (O (N t f) (cs.set q (iV n))))):=by
 have e:=auy (n:=n) k a;rw[arN];simp only[vvB,seval,abw,afT,Jl,t!,e];exact⟨_,rfl⟩
theorem awl{t:TypeId}{f:Bool}{cs:List V}{q:Nat}{n m:Int}(k:Kn h p (O (N t f) cs))(c:cs[q]?=some (iV n))(a: -9223372036854775808<=n+m)(b:n+m<9223372036854775808):
  ZE [X p q,iV m] h=D (iV (n+m)) (h.put p (some (O (N t f) (cs.set q (iV (n+m)))))):=by
 have e:=aBr k c a b;rw[aEG];simp only[vvB,seval,avC,avw,avv,awk,t!,e];simp only[aU,cO,vvB,seval,dn]
theorem amv(a:dJ h F ps A pl ib cb fb vm vl I):Jj [X ps 0] h=D (iV A.clock) h:=by
 have e:=Wl a.st (q:=9) rfl;rw[arE];simp only[vvB,seval,abj,ae8,ae7,ae6,fD,e];simp only[aU,cO,vvB,seval,dn]
theorem aqD(a:dJ h F ps A pl ib cb fb vm vl I)(b:A.Small):Oi [X ps 0] h=D (K false) h:=by
 have e:=amv a;have L:=a.st.ld (q:=6) (x:=iV 1073741824) rfl;have c:=b.clock;rw[avZ];simp only[vvB,seval,aga,aiE,aiD,e,L,uS rfl L];simp only[aU,cO,vvB,seval,dn];rw[decide_eq_false (by omega)]
theorem aqC(a:dJ h F ps A pl ib cb fb vm vl I)(b:A.Small):
  Og [X ps 0] h=D (iV (A.clock+1)) (h.put ps (some (O (N tSt true) (stC {A with clock:=A.clock+1} ib cb vm pl)))):=by
 have c:=b.clock;have e:=awl a.st (q:=9) (n:=A.clock) (m:=1) rfl (by omega) (by omega);rw[avW];simp only[vvB,seval,af8,aix,aiw,e];simp only[aU,cO,vvB,seval,dn];rfl
theorem dJ.arT(a:dJ h F ps A pl ib cb fb vm vl I){B:Acc}(hb:B.boxes=A.boxes)(o:B.mails=A.mails)(g:B.ents=A.ents)(m:B.floor=A.floor):
  dJ (h.put ps (some (O (N tSt true) (stC B ib cb vm pl)))) F ps B pl ib cb fb vm vl I:=by
 have c:Ch (λj=>j=ps) h (h.put ps (some (O (N tSt true) (stC B ib cb vm pl)))):=Ch.put _ _ rfl;have ne:=a.ne;refine⟨a.st.put _,?_,?_,by rw[hb];exact a.cap,?_,?_,a.ne,a.nm,a.nl,a.inn,a.foot,a.lt,by rw[g];exact a.enil⟩
 ·rw[m];exact a.lg.ch c λe=>ne.1 e.symm
 ·rw[hb];exact a.bx.ch c λe=>ne.2.1 e.symm
 ·rw[o];obtain⟨b,x,d,r⟩:=a.ml;refine⟨b,x.mono λ_ _ e=>dB e c λj _ q=>⟨q,λe=>(a.inn j q).2.1 e⟩,d,r.imp id λ⟨i,f,rest,e,k⟩=>⟨i,f,rest,e,k.ch c λl=>?_⟩⟩;exact(a.nm i (by rw[e];rfl)).1 l
 ·rw[g];obtain⟨b,x,d,s⟩:=a.en;exact⟨b,x.mono λ_ _ e=>e,d,s.ch c λj n e=>(a.nl j n).1 e⟩
theorem QJ(a:dJ h F ps A pl ib cb fb vm vl I)(e:A.Small):
  ∃r h',xC [X ps 0] h=D r h'/\Rws (λj=>h.next.nat<=j.nat) (flat gB) 6 h' r A.boxes/\Nw h h'/\dA h.next.nat (λ_=>False) (flat gB) tBx 6 h' r A.boxes:=by
 have L:=a.st.ld (q:=10) rfl;have hb:=e.boxes;obtain⟨r,d,e1,r1,c,b⟩:=axI a.bxr (by omega);rw[arF];simp only[vvB,seval,abk,afb,afa,ae9,fD,L,e1];refine⟨r,d,by simp only[aU,cO,vvB,seval,dn],r1,c,?_⟩;rcases b with b|b
 ·rw[b]at hb;simp at hb
 ·exact b
abbrev zMl:List V:= [(Y U 0),(Y U 0),(H []),(Y U 0),.aO,.aO,(Y U 0),(Y U 0)]
theorem aH9(x:V)(h:Hp):A7 c! tMl x h=bT 8 x h:=kR
theorem aCV{P:Pos->Prop}{m:Ml}{vk vm:V}(e:kH P h m (dM m vk vm))(hk:m.keys.length<=1000)(hm:m.mem.length<=1000):
  ∃h' c d,MB [.agg (V.ofList (dM m vk vm))] h=D (.agg (V.ofList (dM m c d))) h'/\Nw h h'/\kH (λj=>h.next.nat<=j.nat) h' m (dM m c d):=by
 obtain⟨J,L,f,rk,rm⟩:=e;obtain⟨rfl,rfl⟩:vk=J/\vm=L:=by unfold dM at f;injection f with _ f;injection f with _ f;injection f with _ f;injection f with _ f;injection f with a f;injection f with b f;exact⟨a,b⟩
 obtain⟨g,w,C,k1⟩:=mkW h (O (N tMl true) (dM m vk vm));have n1:g.next.nat=h.next.nat+1:=by rw[w,bI]
 obtain⟨h2,y,z,z2⟩:=mkW g (O (N tMl true) zMl);have n2:h2.next.nat=g.next.nat+1:=by rw[y,bI]
 have G:=k1.nw z;obtain⟨c,h3,e3,Z,t,-⟩:=ZG (rk.nw (aK _) (C.trans z)) (by omega);have M:=G.nw t;obtain⟨d,E,e4,r4,u,-⟩:=apX (rm.nw (aK _) ((C.trans z).trans t)) (by omega);have Q:=M.nw u;have z4:=(z2.nw t).nw u;have L1:=G.ld (q:=4) (x:=vk) rfl;have L2:=M.ld (q:=5) (x:=vm) rfl;have B:=G.ld (q:=5) (x:=vm) rfl;have n3:=t.next;have n4:=u.next;obtain⟨o,i⟩:∃o,o=E.put h.next (some (O (N tMl true) (dM m c vm))):=⟨_,rfl⟩
 have S5:aQ 1 (X h.next 4) c E=D V.undef o:=by rw[i];exact Q.st (q:=4) Z.cell (show 4<8 by omega)
 have W:Kn o h.next (O (N tMl true) (dM m c vm)):=by rw[i];exact Q.put _
 have c5:Nw h o:=by rw[i];exact(((C.trans z).trans t).trans u).put (h! _) _
 have z5:Kn o g.next (O (N tMl true) zMl):=by rw[i];exact z4.RZ (λe=>by have:=congrArg Pos.nat e;omega) _
 obtain⟨r,k⟩:∃r,r=o.put h.next (some (O (N tMl true) (dM m c d))):=⟨_,rfl⟩
 have S6:aQ 1 (X h.next 5) d o=D V.undef r:=by rw[k];exact W.st (q:=5) r4.cell (show 5<8 by omega)
 have k6:Kn r h.next (O (N tMl true) (dM m c d)):=by rw[k];exact W.put _
 have z6:Kn r g.next (O (N tMl true) zMl):=by rw[k];exact z5.RZ (λe=>by have:=congrArg Pos.nat e;omega) _
 have L6:=k6.ldN (n:=8) rfl;obtain⟨s,l⟩:∃s,s=r.put g.next (some (O (N tMl true) (dM m c d))):=⟨_,rfl⟩
 have S7:aQ 8 (X g.next 0) (.agg (V.ofList (dM m c d))) r=D V.undef s:=by rw[l];exact z6.stN rfl rfl
 have z7:Kn s g.next (O (N tMl true) (dM m c d)):=by rw[l];exact z6.put _
 have c7:Nw h s:=by rw[l,k];exact(c5.put (h! _) _).put (by omega) _
 have v:Ch (λj=>j=h.next\/j=g.next) E s:=by
  rw[l,k,i];exact((Ch.put (S:=λj=>j=h.next\/j=g.next) _ _ (.inl rfl)).trans (Ch.put (S:=λj=>j=h.next\/j=g.next) _ _ (.inl rfl)) λ_ _ q=>q).trans (Ch.put (S:=λj=>j=h.next\/j=g.next) _ _ (.inr rfl)) λ_ _ q=>q
 rw[apN];simp only[vvB,seval,Xo,acW,acV,acU,V.bW,<-w,<-y,L1,e3,L2,uS rm.noF B,e4,S5,S6,L6,S7];refine⟨s,c,d,by simp only[aU,cO,vvB,seval,aH9,z7.ldN (n:=8) rfl,dn],c7,c,d,rfl,?_,?_⟩
 ·exact Z.ch (P':=λj=>h.next.nat<=j.nat) (aK _) (u.ch.trans v λ_ _ q=>q) λj _ q=>⟨by omega,λe=>by rcases e with rfl|rfl<;>omega⟩
 ·exact r4.ch (P':=λj=>h.next.nat<=j.nat) (aK _) v λj _ q=>⟨by omega,λe=>by rcases e with rfl|rfl<;>omega⟩
end
section
variable{h h' g:Hp}{F I:Pos->Prop}{ps pl ib:Pos}{A:Acc}{cb:Cap}{fb:Bool}{vm vl:V}
theorem aOU(m:Ml)(vk vm:V)(h:Hp):bJ tMl zMl 1 [(0,8,.agg (V.ofList (dM m vk vm)))] h=D (.slice h.next 0 1 (.kn 1)) (h.new (O (N tMl true) (dM m vk vm))):=(rfl)
theorem QI(a:dJ h F ps A pl ib cb fb vm vl I)(M:A.Small):
  ∃r h',xB [X ps 0] h=D r h'/\gK h.next.nat kH tMl 8 h' r A.mails/\Nw h h':=by
 have L:=a.st.ld (q:=11) (x:=vm) rfl;have R:=a.ml.rws;have hn:=M.mails;rw[arC];show aW c! _ (λr h'=>gK h.next.nat kH tMl 8 h' r A.mails/\Nw h h') _;simp only[vvB,seval,abg,ae2,ae1,ae0,aeZ,agx,fD,L,R.len];refine Oc.then (dK (σ:=V) (n:=A.mails.length) (pi:=13) (pn:=12) (pc:=14) [3,11] (λv=> [v,vm]) (λk v g=>Nw h g/\gK h.next.nat kH tMl 8 g v (A.mails.take k))
  (A:=λfr g=>∃v,fr.get (a! 3)=some v/\Nw h g/\gK h.next.nat kH tMl 8 g v A.mails) (B:=λfr g=>False) (s:=.aO)
  (λfr h _ k e1 e2=>by simp only[vvB,seval,aeY,e1,e2]) (λfr h k _ e1=>by simp(disch:=omega)only[vvB,seval,aeV,e1]) (by decide) (by rw[dO];omega) (qK0) (qK0) (by simp only[Fa,vvB,seval,and_self]) ⟨Nw.refl _,gK.nil _ _ _ _ _⟩ ?_ ?_) ?_ ?_
 ·intro k v fr g hk l y z C;obtain⟨f3,d,-⟩:=z;obtain⟨c,o⟩:=C;obtain⟨m,E⟩:∃m,A.mails[k]?=some m:=⟨_,b! hk⟩
  obtain⟨i,q,cs,e1,⟨vk,vs,rfl,rk,rs⟩,-,-,-,-,S⟩:=(R.nw dB c).elt E;have w:=S g rfl;have p:=M.each m (d! E);obtain⟨f,b⟩:∃f,f=g.new (O (N tMl true) (dM m vk vs)):=⟨_,rfl⟩
  have P:aQ 8 (X g.next 0) (.agg (V.ofList (dM m vk vs))) (g.new (O (N tMl true) zMl))=D V.undef f:=by rw[b];exact ig (V.dG _) rfl rfl
  have t:Nw g f:=by rw[b];exact Nw.new _ _
  have k2:Kn f g.next (O (N tMl true) (dM m vk vs)):=by rw[b];exact Kn.new _ _
  have n2:f.next.nat=g.next.nat+1:=by rw[b,bI]
  obtain⟨g3,G,J,W,u,x3⟩:=aCV (show kH _ f m (dM m vk vs) from⟨vk,vs,rfl,rk.nw (aK _) t,rs.nw (aK _) t⟩) p.1 p.2;have o3:=o.nw dB (t.trans u);have aa:=c.next;have ab:=u.next;obtain⟨v',g4,Z,o5,Q,n5,-⟩:=o3.app (bt:=104) dB (by omega) (cs:=dM m G J) rfl x3 (λj _ q=>⟨by omega,λe=>by have:=(o.eY e).2;omega⟩) (by rw[List.length_take];omega);simp only[vvB,seval,aeX,aeW,f3,d,l,e1,w,P,k2.ldN (n:=8) rfl,W,aOU,Z];refine⟨qK2 l,qK2 y,v',by simp only[Fa,vvB,seval,d,and_self],?_,?_⟩
  ·exact((c.trans t).trans u).own Q λj e=>(o.eY e).1
  ·rw[take_snoc E];exact o5
 ·intro v fr g z C;obtain⟨f3,d,-⟩:=z;obtain⟨c,o⟩:=C;rw[g!]at o;exact⟨v,f3,c,o⟩
 ·rintro fr g ⟨v,f3,c,o⟩;simp only[vvB,seval,aeU,f3];exact aW.ret (r:=v) (qT0) ⟨o,c⟩
 ·intro fr g q;exact q.elim
theorem awY{P:Pos->Prop}{m:Ml}{vk vs:V}(e:kH P h m (dM m vk vs))(hm:m.mem.length<=1000):
  ∃r h',Dv [.agg (V.ofList (dM m vk vs))] h=D r h'/\gK h.next.nat (flat fH) fZ 1 h' r (m.mem.map (·.1))/\Nw h h':=by
 obtain⟨G,J,d,-,rm⟩:=e;obtain⟨rfl,rfl⟩:vk=G/\vs=J:=by unfold dM at d;injection d with _ d;injection d with _ d;injection d with _ d;injection d with _ d;injection d with a d;injection d with b d;exact⟨a,b⟩
 obtain⟨p,E,t,k1⟩:=mkW h (O (N tMl true) (dM m vk vs));have L:=k1.ld (q:=5) (x:=vs) rfl;have n1:=t.next;have R:=rm.nw (aK _) t;rw[apI];show aW c! _ (λr h'=>gK h.next.nat (flat fH) fZ 1 h' r (m.mem.map (·.1))/\Nw h h') _;simp only[vvB,seval,Xj,acu,acs,acr,adI,V.bW,<-E,L,R.len];refine Oc.then (dK (σ:=V) (n:=m.mem.length) (pi:=9) (pn:=8) (pc:=10) [3,7] (λv=> [v,vs]) (λk v g=>Nw p g/\gK p.next.nat (flat fH) fZ 1 g v ((m.mem.map (·.1)).take k))
  (A:=λfr g=>∃v,fr.get (a! 3)=some v/\Nw p g/\gK p.next.nat (flat fH) fZ 1 g v (m.mem.map (·.1))) (B:=λfr g=>False) (s:=.aO)
  (λfr h _ k e1 e2=>by simp only[vvB,seval,acp,e1,e2]) (λfr h k _ e1=>by simp(disch:=omega)only[vvB,seval,ack,e1]) (by decide) (by rw[dO];omega) (qK0) (qK0) (by simp only[Fa,vvB,seval,and_self]) ⟨Nw.refl _,gK.nil _ _ _ _ _⟩ ?_ ?_) ?_ ?_
 ·intro k v fr g hk Q f8 z C;obtain⟨f3,M,-⟩:=z;obtain⟨c,o⟩:=C;obtain⟨x,S⟩:∃x,m.mem[k]?=some x:=⟨_,b! hk⟩
  obtain⟨i,q,cs,e1,e2,-,-,-,-,e3⟩:=(R.nw (aK _) c).elt S;obtain rfl:cs=dY x:=e2;have w:=e3 g rfl;obtain⟨f,l⟩:∃f,f=g.new (O (N tMb true) (dY x)):=⟨_,rfl⟩
  have Z:aQ 2 (X g.next 0) (.agg (V.ofList (dY x))) (g.new (O (N tMb true) [(Y U 0),(Y U 0)]))=D V.undef f:=by rw[l];exact ig (V.dG _) rfl rfl
  have u:Nw g f:=by rw[l];exact Nw.new _ _
  have k2:Kn f g.next (O (N tMb true) (dY x)):=by rw[l];exact Kn.new _ _
  have ab:=c.next;have ac:=u.next;obtain⟨W,g4,y,o5,c5,n5,-⟩:=(o.nw (aK _) u).app (bt:=8) (x:=x.1) (cs:=fH x.1) (P0:=λ_=>False) (aK _) (by omega) rfl rfl (λj _ q=>q.elim) (by simp;omega);have y:bK fZ 1 8 v (.slice f.next 0 1 (.kn 1)) (f.new (O (N fZ true) [iV x.1]))=D W g4:=y;simp only[vvB,seval,aco,acn,f3,M,Q,e1,w,Z,k2.ld (q:=0) (x:=iV x.1) rfl,y];refine⟨qK2 Q,qK2 f8,W,by simp only[Fa,vvB,seval,M,and_self],?_,?_⟩
  ·exact(c.trans u).own c5 λj e=>(o.eY e).1
  ·rw[take_snoc (show(m.mem.map (·.1))[k]?=some x.1 by rw[o!,S];rfl)];exact o5
 ·intro v fr g z C;obtain⟨f3,aa,-⟩:=z;obtain⟨c,o⟩:=C;rw[List.take_of_length_le (by simp)]at o;exact⟨v,f3,c,o⟩
 ·rintro fr g ⟨v,f3,c,o⟩;simp only[vvB,seval,acj,f3];exact aW.ret (r:=v) (qT0) ⟨o.lower (by omega),t.trans c⟩
 ·intro fr g q;exact q.elim
end
end Go.Proofs.Im
