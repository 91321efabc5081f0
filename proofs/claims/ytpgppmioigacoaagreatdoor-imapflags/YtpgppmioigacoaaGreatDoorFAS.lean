/- Lemmas. No conditions. -/
import Derived.Test.YtpgppmioigacoaaGreatDoorFAQ
import Derived.Test.YtpgppmioigacoaaGreatDoorFAP
set_option linter.all false
set_option maxRecDepth 100000
open Go.Vm.Pos renaming of→a!
open List renaming getElem?_eq_getElem→b!,mem_of_getElem?→c!,findIdx?_append→d!,take_length→e!,take_add_one→g!,length_eq_zero_iff→i!,length_pos_iff→j!,getElem?_map→l!,length_map→o!,map_set→t!
open Nat renaming le_refl→h!,zero_add→n!,add_zero→p!,zero_le→u!,mul_one→v!
open Int renaming sub_zero→k!,natCast_zero→r!
open Go.Vm.V renaming int→Y,ptr→X,bool→K,str→H
open Go.IntKind renaming i64→U
open Go.Vm.Ob renaming cells→O
open Go.Vm.Wr renaming rw→N
open Go.Vm.R renaming ok→D
noncomputable section
open Go Go.Proofs Go.Vm Go.Im
namespace Go.Proofs.Im
open Go.Proofs.Tryz
def XK(h:Hp){n:Nat}(hn:n<256):∃k:Int,NE [Y .u64 (n:Int)] h=D (Y U k) h/\(0<n->k≠0):=by
 have c:jS .u8 (Y .u64 (n:Int)) h=D (Y .u8 (n:Int)) h:=by
  show iM .u8 (xq .u8 (n:Int)) h=_;rw[Ac,wrap_u8 hn,gZ]
 have key:∃k:Int,TJ [Y .u64 (n:Int)] h=D (Y U k) h/\(0<n->k≠0):=by
  rw[atO]
  suffices T:aV prog [.tmp 2] (λr g=>(∃k:Int,r=Y U k/\(0<n->k≠0))/\g=h) (ab7 (T.set (some (Y .u64 (n:Int))) (a! 0) T.nil) h) by
   obtain⟨r,g,e,⟨k,rfl,b⟩,rfl⟩:=T;exact⟨k,e,b⟩
  simp(disch:=omega)only[vvB,seval,ab7,akP,agw,agv,agu,adL,c];refine aLr (Q:=λo=>aV prog [.tmp 2] (λr g=>(∃k:Int,r=Y U k/\(0<n->k≠0))/\g=h) (oC o Out.ret)) (by simp only[List.length_cons,List.length_nil,Nat.blt_eq];omega) (by rfl) (by rfl) λa f d=>?_;simp(disch:=omega)only[vvB,seval];exact aV.ret (qT0) ⟨⟨(a:Int),by simp,λq=>by have:=d q;omega⟩,rfl⟩
 obtain⟨k,e,b⟩:=key;refine⟨k,?_,b⟩;rw[azO];simp(disch:=omega)only[vvB,seval,axP,akP,aoJ,e];simp only[bV,bQ,vvB,seval,bT]<;>rfl
def alo{h:Hp}{n:Int}(h0:0<=n)(a:n<1000000):jS .u64 (Y U n) h=D (Y .u64 n) h:=by
 show iM .u64 (xq .u64 n) h=_;rw[Ac,gZ];congr 2;simp[IntKind.wrap,IntKind.signed,IntKind.bits];omega
def ala{α:Type}{P:Pos->Prop}{c:α->List V}{h:Hp}{v:V}{l:List α}(r:Rws P (flat c) 1 h v l)(x:l.length*8<=140737488355328):
  ∃r h',yO [v] h=D r h'/\Rws (λj=>h.next.nat<=j.nat) (flat c) 1 h' r l/\Nw h h'/\(l= []\/dF h.next.nat (λ_=>False) (flat c) 3 1 h' r l):=by
 obtain⟨b,a,y,s,kk,p⟩:=r;have m:l.length=0->l= []:=i!.1;rw[amz];show aV prog _ (λr h'=>Rws (λj=>h.next.nat<=j.nat) (flat c) 1 h' r l/\Nw h h'/\(l= []\/dF h.next.nat (λ_=>False) (flat c) 3 1 h' r l)) _;by_cases t:v=.aP
 ·subst t;have hl:l= []:=by
   rcases s.is with⟨h0,_⟩|⟨i,o,cp,wr,all,e,_⟩
   ·exact m h0
   ·cases e
  subst hl;simp(disch:=omega)only[vvB,seval,FM,zO,zN,sD];exact aV.ret (qT0) ⟨Rws.aP _ _ _ _,Nw.refl _,.inl (by trivial)⟩
 ·have n:∀g,aH .eql .slice v .aP g=D (K false) g:=λg=>by
   rcases s.is with⟨_,h0|h0⟩|⟨i,o,cp,wr,all,h0,_⟩
   ·exact absurd h0 t
   ·rw[h0];rfl
   ·rw[h0];rfl
  have f:Nw h (h.new (O (N 3 true) [])):=Nw.new _ _;have w:Sl h.next.nat (h.new (O (N 3 true) [])) 1 v l.length b.flatten:=s.ch f (h! _) λ_ _ q=>q;by_cases hl:l= []
  ·subst hl;cases a;have k:bZ 3 1 8 (.slice h.next 0 0 (.kn 0)) v (h.new (O (N 3 true) []))=D (.slice h.next 0 0 (.kn 0)) (h.new (O (N 3 true) [])):=UM w;simp(disch:=omega)only[vvB,seval,FM,zO,zN,J9,n,su,k];exact aV.ret (qT0) ⟨Rws.zero (h! _),f,.inl (by trivial)⟩
  ·have d:0<l.length:=j!.2 hl;have k:bZ 3 1 8 (.slice h.next 0 0 (.kn 0)) v (h.new (O (N 3 true) []))=_:=Jh w d (p:=h.next) (wr:=N 3 true) (cs0:= []) (by rw[dY];rfl) x;simp(disch:=omega)only[vvB,seval,FM,zO,zN,J9,n,su,k];have u:dF h.next.nat (λ_=>False) (flat c) 3 1 ((h.new (O (N 3 true) [])).new (O (N 3 false) b.flatten)) (.slice (h.new (O (N 3 true) [])).next 0 l.length (.un 1)) l:=
    ⟨b,a,y,s.len,.inr ⟨_,rfl,by have:=bJ h (O (N 3 true) []);omega,by have:=bJ (h.new (O (N 3 true) [])) (O (N 3 false) b.flatten);omega,false,dY _ _⟩⟩
   exact aV.ret (qT0) ⟨u.rows (aJ _) (λ_ _ q=>q.elim) λ_ q _=>q,f.trans (Nw.new _ _),.inr u⟩
def azW{α:Type}{P:Pos->Prop}{c:α->List V}{h:Hp}{v:V}{l:List α}(r:Rws P (flat c) 6 h v l)(x:l.length*56<=140737488355328):
  ∃r h',FO [v] h=D r h'/\Rws (λj=>h.next.nat<=j.nat) (flat c) 6 h' r l/\Nw h h'/\(l= []\/dF h.next.nat (λ_=>False) (flat c) 55 6 h' r l):=by
 obtain⟨b,a,y,s,kk,p⟩:=r;have m:l.length=0->l= []:=i!.1;rw[amA];show aV prog _ (λr h'=>Rws (λj=>h.next.nat<=j.nat) (flat c) 6 h' r l/\Nw h h'/\(l= []\/dF h.next.nat (λ_=>False) (flat c) 55 6 h' r l)) _;by_cases t:v=.aP
 ·subst t;have hl:l= []:=by
   rcases s.is with⟨h0,_⟩|⟨i,o,cp,wr,all,e,_⟩
   ·exact m h0
   ·cases e
  subst hl;simp(disch:=omega)only[vvB,seval,FN,zO,zN,sD];exact aV.ret (qT0) ⟨Rws.aP _ _ _ _,Nw.refl _,.inl (by trivial)⟩
 ·have n:∀g,aH .eql .slice v .aP g=D (K false) g:=λg=>by
   rcases s.is with⟨_,h0|h0⟩|⟨i,o,cp,wr,all,h0,_⟩
   ·exact absurd h0 t
   ·rw[h0];rfl
   ·rw[h0];rfl
  have f:Nw h (h.new (O (N 55 true) [])):=Nw.new _ _;have w:Sl h.next.nat (h.new (O (N 55 true) [])) 6 v l.length b.flatten:=s.ch f (h! _) λ_ _ q=>q;by_cases hl:l= []
  ·subst hl;cases a;have k:bZ 55 6 56 (.slice h.next 0 0 (.kn 0)) v (h.new (O (N 55 true) []))=D (.slice h.next 0 0 (.kn 0)) (h.new (O (N 55 true) [])):=UM w;simp(disch:=omega)only[vvB,seval,FN,zO,zN,Ko,n,su,k];exact aV.ret (qT0) ⟨Rws.zero (h! _),f,.inl (by trivial)⟩
  ·have d:0<l.length:=j!.2 hl;have k:bZ 55 6 56 (.slice h.next 0 0 (.kn 0)) v (h.new (O (N 55 true) []))=_:=Jh w d (p:=h.next) (wr:=N 55 true) (cs0:= []) (by rw[dY];rfl) x;simp(disch:=omega)only[vvB,seval,FN,zO,zN,Ko,n,su,k];have u:dF h.next.nat (λ_=>False) (flat c) 55 6 ((h.new (O (N 55 true) [])).new (O (N 55 false) b.flatten)) (.slice (h.new (O (N 55 true) [])).next 0 l.length (.un 6)) l:=
    ⟨b,a,y,s.len,.inr ⟨_,rfl,by have:=bJ h (O (N 55 true) []);omega,by have:=bJ (h.new (O (N 55 true) [])) (O (N 55 false) b.flatten);omega,false,dY _ _⟩⟩
   exact aV.ret (qT0) ⟨u.rows (aJ _) (λ_ _ q=>q.elim) λ_ q _=>q,f.trans (Nw.new _ _),.inr u⟩
def at6{α:Type}{P:Pos->Prop}{c:α->List V}{h:Hp}{v:V}{l:List α}(r:Rws P (flat c) 4 h v l)(x:l.length*32<=140737488355328):
  ∃r h',pz [v] h=D r h'/\Rws (λj=>h.next.nat<=j.nat) (flat c) 4 h' r l/\Nw h h'/\(l= []\/dF h.next.nat (λ_=>False) (flat c) 85 4 h' r l):=by
 obtain⟨b,a,y,s,kk,p⟩:=r;have m:l.length=0->l= []:=i!.1;rw[P7];show aV prog _ (λr h'=>Rws (λj=>h.next.nat<=j.nat) (flat c) 4 h' r l/\Nw h h'/\(l= []\/dF h.next.nat (λ_=>False) (flat c) 85 4 h' r l)) _;by_cases t:v=.aP
 ·subst t;have hl:l= []:=by
   rcases s.is with⟨h0,_⟩|⟨i,o,cp,wr,all,e,_⟩
   ·exact m h0
   ·cases e
  subst hl;simp(disch:=omega)only[vvB,seval,uF,zO,zN,sD];exact aV.ret (qT0) ⟨Rws.aP _ _ _ _,Nw.refl _,.inl (by trivial)⟩
 ·have n:∀g,aH .eql .slice v .aP g=D (K false) g:=λg=>by
   rcases s.is with⟨_,h0|h0⟩|⟨i,o,cp,wr,all,h0,_⟩
   ·exact absurd h0 t
   ·rw[h0];rfl
   ·rw[h0];rfl
  have f:Nw h (h.new (O (N 85 true) [])):=Nw.new _ _;have w:Sl h.next.nat (h.new (O (N 85 true) [])) 4 v l.length b.flatten:=s.ch f (h! _) λ_ _ q=>q;by_cases hl:l= []
  ·subst hl;cases a;have k:bZ 85 4 32 (.slice h.next 0 0 (.kn 0)) v (h.new (O (N 85 true) []))=D (.slice h.next 0 0 (.kn 0)) (h.new (O (N 85 true) [])):=UM w;simp(disch:=omega)only[vvB,seval,uF,zO,zN,DW,n,su,k];exact aV.ret (qT0) ⟨Rws.zero (h! _),f,.inl (by trivial)⟩
  ·have d:0<l.length:=j!.2 hl;have k:bZ 85 4 32 (.slice h.next 0 0 (.kn 0)) v (h.new (O (N 85 true) []))=_:=Jh w d (p:=h.next) (wr:=N 85 true) (cs0:= []) (by rw[dY];rfl) x;simp(disch:=omega)only[vvB,seval,uF,zO,zN,DW,n,su,k];have u:dF h.next.nat (λ_=>False) (flat c) 85 4 ((h.new (O (N 85 true) [])).new (O (N 85 false) b.flatten)) (.slice (h.new (O (N 85 true) [])).next 0 l.length (.un 4)) l:=
    ⟨b,a,y,s.len,.inr ⟨_,rfl,by have:=bJ h (O (N 85 true) []);omega,by have:=bJ (h.new (O (N 85 true) [])) (O (N 85 false) b.flatten);omega,false,dY _ _⟩⟩
   exact aV.ret (qT0) ⟨u.rows (aJ _) (λ_ _ q=>q.elim) λ_ q _=>q,f.trans (Nw.new _ _),.inr u⟩
def arJ(h:Hp):pz [.aP] h=D .aP h:=by
 rw[P7];simp(disch:=omega)only[vvB,seval,uF,zO,zN,sD];simp only[bV,bQ,vvB,seval,bT]
def arI{α:Type}{P:Pos->Prop}{c:α->List V}{h:Hp}{v:V}{l:List α}(r:Rws P (flat c) 2 h v l)(x:l.length*16<=140737488355328):
  ∃r h',yA [v] h=D r h'/\Rws (λj=>h.next.nat<=j.nat) (flat c) 2 h' r l/\Nw h h'/\(l= []\/dF h.next.nat (λ_=>False) (flat c) 106 2 h' r l):=by
 obtain⟨b,a,y,s,kk,p⟩:=r;have m:l.length=0->l= []:=i!.1;rw[ae4];show aV prog _ (λr h'=>Rws (λj=>h.next.nat<=j.nat) (flat c) 2 h' r l/\Nw h h'/\(l= []\/dF h.next.nat (λ_=>False) (flat c) 106 2 h' r l)) _;by_cases t:v=.aP
 ·subst t;have hl:l= []:=by
   rcases s.is with⟨h0,_⟩|⟨i,o,cp,wr,all,e,_⟩
   ·exact m h0
   ·cases e
  subst hl;simp(disch:=omega)only[vvB,seval,yg,zO,zN,sD];exact aV.ret (qT0) ⟨Rws.aP _ _ _ _,Nw.refl _,.inl (by trivial)⟩
 ·have n:∀g,aH .eql .slice v .aP g=D (K false) g:=λg=>by
   rcases s.is with⟨_,h0|h0⟩|⟨i,o,cp,wr,all,h0,_⟩
   ·exact absurd h0 t
   ·rw[h0];rfl
   ·rw[h0];rfl
  have f:Nw h (h.new (O (N 106 true) [])):=Nw.new _ _;have w:Sl h.next.nat (h.new (O (N 106 true) [])) 2 v l.length b.flatten:=s.ch f (h! _) λ_ _ q=>q;by_cases hl:l= []
  ·subst hl;cases a;have k:bZ 106 2 16 (.slice h.next 0 0 (.kn 0)) v (h.new (O (N 106 true) []))=D (.slice h.next 0 0 (.kn 0)) (h.new (O (N 106 true) [])):=UM w;simp(disch:=omega)only[vvB,seval,yg,zO,zN,Bg,n,su,k];exact aV.ret (qT0) ⟨Rws.zero (h! _),f,.inl (by trivial)⟩
  ·have d:0<l.length:=j!.2 hl;have k:bZ 106 2 16 (.slice h.next 0 0 (.kn 0)) v (h.new (O (N 106 true) []))=_:=Jh w d (p:=h.next) (wr:=N 106 true) (cs0:= []) (by rw[dY];rfl) x;simp(disch:=omega)only[vvB,seval,yg,zO,zN,Bg,n,su,k];have u:dF h.next.nat (λ_=>False) (flat c) 106 2 ((h.new (O (N 106 true) [])).new (O (N 106 false) b.flatten)) (.slice (h.new (O (N 106 true) [])).next 0 l.length (.un 2)) l:=
    ⟨b,a,y,s.len,.inr ⟨_,rfl,by have:=bJ h (O (N 106 true) []);omega,by have:=bJ (h.new (O (N 106 true) [])) (O (N 106 false) b.flatten);omega,false,dY _ _⟩⟩
   exact aV.ret (qT0) ⟨u.rows (aJ _) (λ_ _ q=>q.elim) λ_ q _=>q,f.trans (Nw.new _ _),.inr u⟩
def CB{α:Type}{P:Pos->Prop}{c:α->List V}{h:Hp}{v:V}{l:List α}(r:Rws P (flat c) 1 h v l)(x:l.length*16<=140737488355328):
  ∃r h',ou [v] h=D r h'/\Rws (λj=>h.next.nat<=j.nat) (flat c) 1 h' r l/\Nw h h'/\(l= []\/dF h.next.nat (λ_=>False) (flat c) 9 1 h' r l):=by
 obtain⟨b,a,y,s,kk,p⟩:=r;have m:l.length=0->l= []:=i!.1;rw[ae3];show aV prog _ (λr h'=>Rws (λj=>h.next.nat<=j.nat) (flat c) 1 h' r l/\Nw h h'/\(l= []\/dF h.next.nat (λ_=>False) (flat c) 9 1 h' r l)) _;by_cases t:v=.aP
 ·subst t;have hl:l= []:=by
   rcases s.is with⟨h0,_⟩|⟨i,o,cp,wr,all,e,_⟩
   ·exact m h0
   ·cases e
  subst hl;simp(disch:=omega)only[vvB,seval,yc,zO,zN,sD];exact aV.ret (qT0) ⟨Rws.aP _ _ _ _,Nw.refl _,.inl (by trivial)⟩
 ·have n:∀g,aH .eql .slice v .aP g=D (K false) g:=λg=>by
   rcases s.is with⟨_,h0|h0⟩|⟨i,o,cp,wr,all,h0,_⟩
   ·exact absurd h0 t
   ·rw[h0];rfl
   ·rw[h0];rfl
  have f:Nw h (h.new (O (N 9 true) [])):=Nw.new _ _;have w:Sl h.next.nat (h.new (O (N 9 true) [])) 1 v l.length b.flatten:=s.ch f (h! _) λ_ _ q=>q;by_cases hl:l= []
  ·subst hl;cases a;have k:bZ 9 1 16 (.slice h.next 0 0 (.kn 0)) v (h.new (O (N 9 true) []))=D (.slice h.next 0 0 (.kn 0)) (h.new (O (N 9 true) [])):=UM w;simp(disch:=omega)only[vvB,seval,yc,zO,zN,Bf,n,su,k];exact aV.ret (qT0) ⟨Rws.zero (h! _),f,.inl (by trivial)⟩
  ·have d:0<l.length:=j!.2 hl;have k:bZ 9 1 16 (.slice h.next 0 0 (.kn 0)) v (h.new (O (N 9 true) []))=_:=Jh w d (p:=h.next) (wr:=N 9 true) (cs0:= []) (by rw[dY];rfl) x;simp(disch:=omega)only[vvB,seval,yc,zO,zN,Bf,n,su,k];have u:dF h.next.nat (λ_=>False) (flat c) 9 1 ((h.new (O (N 9 true) [])).new (O (N 9 false) b.flatten)) (.slice (h.new (O (N 9 true) [])).next 0 l.length (.un 1)) l:=
    ⟨b,a,y,s.len,.inr ⟨_,rfl,by have:=bJ h (O (N 9 true) []);omega,by have:=bJ (h.new (O (N 9 true) [])) (O (N 9 false) b.flatten);omega,false,dY _ _⟩⟩
   exact aV.ret (qT0) ⟨u.rows (aJ _) (λ_ _ q=>q.elim) λ_ q _=>q,f.trans (Nw.new _ _),.inr u⟩
def zq{α:Type}{P:Pos->Prop}{E:El α}{h:Hp}{v f:V}{l:List α}(r:Rws P E 6 h v l)(J:E.Stable)(p:α->Bool)(hn:l.length<=1000000000)
  (M:∀a cs g,a∈l->Nw h g->E P g a cs->cs.length=6->∃g',dD kM f [.agg (V.ofList cs)] g=D (K (p a)) g'/\Nw g g'):
  ∃h',kN [v,f] h=D (Y U (fE (l.findIdx? p))) h'/\Nw h h':=by
 rw[acz]
 suffices T:aV prog [.tmp 4] (λr h'=>r=Y U (fE (l.findIdx? p))/\Nw h h') (Et (T.set (some f) (a! 1) (T.set (some v) (a! 0) T.nil)) h) by
  obtain⟨r,h',e,rfl,c⟩:=T;exact⟨h',e,c⟩
 simp(disch:=omega)only[vvB,seval,Et,axJ,LG,r.len,MB];refine Oc.then (dP (σ:=Unit) (n:=l.length) (pi:=8) (pn:=7) (pc:=9) [0,1] (λ_=> [v,f]) (λk _ g=>Nw h g/\(l.take k).findIdx? p=none)
  (A:=λfr g=>Nw h g/\l.findIdx? p=none) (B:=λfr g=>fr.get (a! 4)=some (Y U (fE (l.findIdx? p)))/\Nw h g) (s:=())
  (λfr h _ k e1 e2=>by simp only[vvB,seval,LD,e1,e2]) (λfr h k _ e1=>by simp(disch:=omega)only[vvB,seval,Lr,e1]) (by decide) (by rw[dR];omega) (qK0) (qK0) (by simp only[Fa,vvB,seval,and_self]) ⟨Nw.refl _,by simp⟩ ?_ ?_) ?_ ?_
 ·intro k _ fr g Q m I w o;obtain⟨f0,f1,-⟩:=w;obtain⟨c,b⟩:=o;obtain⟨x,j⟩:∃x,l[k]?=some x:=⟨_,b! Q⟩
  obtain⟨i,q,cs,e1,ex,L,hi,-,-,y⟩:=(r.nw J c).elt j;obtain⟨g',z,u⟩:=M x cs g (c! j) c ex L;have C:=y g rfl;simp(disch:=omega)only[vvB,seval,LC,Lu,f0,f1,m,e1,C,z];by_cases t:p x=true
  ·simp only[vvB,seval,t,Ls,m];refine⟨?_,c.trans u⟩;simp only[vvB,seval];rw[lX j b t];rfl
  ·have d:p x=false:=by simpa using t
   simp only[vvB,seval,d];refine⟨qK2 m,qK2 I,(),by simp only[Fa,vvB,seval,f0,f1,and_self],c.trans u,?_⟩;rw[g!,j];simp[d!,b,d]
 ·intro _ fr g w o;obtain⟨c,b⟩:=o;rw[e!]at b;exact⟨c,b⟩
 ·rintro fr g ⟨c,b⟩;simp only[vvB,seval,Lm];exact aV.ret (qT0) ⟨by rw[b];rfl,c⟩
 ·rintro fr g ⟨G,c⟩;exact aV.ret (qT1 G) ⟨rfl,c⟩
def an6{α:Type}{P:Pos->Prop}{E:El α}{h:Hp}{v f:V}{l:List α}(r:Rws P E 1 h v l)(L:E.Stable)(p:α->Bool)(hn:l.length<=1000000000)
  (Q:∀a x g,a∈l->Nw h g->E P g a [x]->∃g',dD qh f [x] g=D (K (p a)) g'/\Nw g g'):
  ∃h',vS [v,f] h=D (Y U (fE (l.findIdx? p))) h'/\Nw h h':=by
 rw[acy]
 suffices T:aV prog [.tmp 4] (λr h'=>r=Y U (fE (l.findIdx? p))/\Nw h h') (Es (T.set (some f) (a! 1) (T.set (some v) (a! 0) T.nil)) h) by
  obtain⟨r,h',e,rfl,c⟩:=T;exact⟨h',e,c⟩
 simp(disch:=omega)only[vvB,seval,Es,axJ,LG,r.len,Me];refine Oc.then (dP (σ:=Unit) (n:=l.length) (pi:=8) (pn:=7) (pc:=9) [0,1] (λ_=> [v,f]) (λk _ g=>Nw h g/\(l.take k).findIdx? p=none)
  (A:=λfr g=>Nw h g/\l.findIdx? p=none) (B:=λfr g=>fr.get (a! 4)=some (Y U (fE (l.findIdx? p)))/\Nw h g) (s:=())
  (λfr h _ k e1 e2=>by simp only[vvB,seval,LD,e1,e2]) (λfr h k _ e1=>by simp(disch:=omega)only[vvB,seval,Lr,e1]) (by decide) (by rw[dR];omega) (qK0) (qK0) (by simp only[Fa,vvB,seval,and_self]) ⟨Nw.refl _,by simp⟩ ?_ ?_) ?_ ?_
 ·intro k _ fr g S m J w o;obtain⟨f0,f1,-⟩:=w;obtain⟨c,b⟩:=o;obtain⟨x,j⟩:∃x,l[k]?=some x:=⟨_,b! S⟩
  obtain⟨i,q,cs,e1,ex,M,hi,-,z,-⟩:=(r.nw L c).elt j;obtain⟨y,rfl⟩:=aAC M;obtain⟨g',C,u⟩:=Q x y g (c! j) c ex;have G:aF (X i q) g=D y g:=z g rfl 0 y rfl;simp(disch:=omega)only[vvB,seval,LC,Lc,f0,f1,m,e1,G,C];by_cases t:p x=true
  ·simp only[vvB,seval,t,Ls,m];refine⟨?_,c.trans u⟩;simp only[vvB,seval];rw[lX j b t];rfl
  ·have d:p x=false:=by simpa using t
   simp only[vvB,seval,d];refine⟨qK2 m,qK2 J,(),by simp only[Fa,vvB,seval,f0,f1,and_self],c.trans u,?_⟩;rw[g!,j];simp[d!,b,d]
 ·intro _ fr g w o;obtain⟨c,b⟩:=o;rw[e!]at b;exact⟨c,b⟩
 ·rintro fr g ⟨c,b⟩;simp only[vvB,seval,Lm];exact aV.ret (qT0) ⟨by rw[b];rfl,c⟩
 ·rintro fr g ⟨I,c⟩;exact aV.ret (qT1 I) ⟨rfl,c⟩
def UR{α:Type}{P:Pos->Prop}{E:El α}{h:Hp}{v f:V}{l:List α}(r:Rws P E 8 h v l)(J:E.Stable)(p:α->Bool)(hn:l.length<=1000000000)
  (M:∀a cs g,a∈l->Nw h g->E P g a cs->cs.length=8->∃g',dD uz f [.agg (V.ofList cs)] g=D (K (p a)) g'/\Nw g g'):
  ∃h',oP [v,f] h=D (Y U (fE (l.findIdx? p))) h'/\Nw h h':=by
 rw[aau]
 suffices T:aV prog [.tmp 4] (λr h'=>r=Y U (fE (l.findIdx? p))/\Nw h h') (Bo (T.set (some f) (a! 1) (T.set (some v) (a! 0) T.nil)) h) by
  obtain⟨r,h',e,rfl,c⟩:=T;exact⟨h',e,c⟩
 simp(disch:=omega)only[vvB,seval,Bo,axJ,LG,r.len,KL];refine Oc.then (dP (σ:=Unit) (n:=l.length) (pi:=8) (pn:=7) (pc:=9) [0,1] (λ_=> [v,f]) (λk _ g=>Nw h g/\(l.take k).findIdx? p=none)
  (A:=λfr g=>Nw h g/\l.findIdx? p=none) (B:=λfr g=>fr.get (a! 4)=some (Y U (fE (l.findIdx? p)))/\Nw h g) (s:=())
  (λfr h _ k e1 e2=>by simp only[vvB,seval,LD,e1,e2]) (λfr h k _ e1=>by simp(disch:=omega)only[vvB,seval,Lr,e1]) (by decide) (by rw[dR];omega) (qK0) (qK0) (by simp only[Fa,vvB,seval,and_self]) ⟨Nw.refl _,by simp⟩ ?_ ?_) ?_ ?_
 ·intro k _ fr g Q m I w o;obtain⟨f0,f1,-⟩:=w;obtain⟨c,b⟩:=o;obtain⟨x,j⟩:∃x,l[k]?=some x:=⟨_,b! Q⟩
  obtain⟨i,q,cs,e1,ex,L,hi,-,-,y⟩:=(r.nw J c).elt j;obtain⟨g',z,u⟩:=M x cs g (c! j) c ex L;have C:=y g rfl;simp(disch:=omega)only[vvB,seval,LC,JE,f0,f1,m,e1,C,z];by_cases t:p x=true
  ·simp only[vvB,seval,t,Ls,m];refine⟨?_,c.trans u⟩;simp only[vvB,seval];rw[lX j b t];rfl
  ·have d:p x=false:=by simpa using t
   simp only[vvB,seval,d];refine⟨qK2 m,qK2 I,(),by simp only[Fa,vvB,seval,f0,f1,and_self],c.trans u,?_⟩;rw[g!,j];simp[d!,b,d]
 ·intro _ fr g w o;obtain⟨c,b⟩:=o;rw[e!]at b;exact⟨c,b⟩
 ·rintro fr g ⟨c,b⟩;simp only[vvB,seval,Lm];exact aV.ret (qT0) ⟨by rw[b];rfl,c⟩
 ·rintro fr g ⟨G,c⟩;exact aV.ret (qT1 G) ⟨rfl,c⟩
def tu{α:Type}{P:Pos->Prop}{E:El α}{h:Hp}{v f:V}{l:List α}(r:Rws P E 1 h v l)(L:E.Stable)(p:α->Bool)(hn:l.length<=1000000000)
  (Q:∀a x g,a∈l->Nw h g->E P g a [x]->∃g',dD kz f [x] g=D (K (p a)) g'/\Nw g g'):
  ∃h',kC [v,f] h=D (Y U (fE (l.findIdx? p))) h'/\Nw h h':=by
 rw[Ws]
 suffices T:aV prog [.tmp 4] (λr h'=>r=Y U (fE (l.findIdx? p))/\Nw h h') (xZ (T.set (some f) (a! 1) (T.set (some v) (a! 0) T.nil)) h) by
  obtain⟨r,h',e,rfl,c⟩:=T;exact⟨h',e,c⟩
 simp(disch:=omega)only[vvB,seval,xZ,axJ,LG,r.len,EX];refine Oc.then (dP (σ:=Unit) (n:=l.length) (pi:=8) (pn:=7) (pc:=9) [0,1] (λ_=> [v,f]) (λk _ g=>Nw h g/\(l.take k).findIdx? p=none)
  (A:=λfr g=>Nw h g/\l.findIdx? p=none) (B:=λfr g=>fr.get (a! 4)=some (Y U (fE (l.findIdx? p)))/\Nw h g) (s:=())
  (λfr h _ k e1 e2=>by simp only[vvB,seval,LD,e1,e2]) (λfr h k _ e1=>by simp(disch:=omega)only[vvB,seval,Lr,e1]) (by decide) (by rw[dR];omega) (qK0) (qK0) (by simp only[Fa,vvB,seval,and_self]) ⟨Nw.refl _,by simp⟩ ?_ ?_) ?_ ?_
 ·intro k _ fr g S m J w o;obtain⟨f0,f1,-⟩:=w;obtain⟨c,b⟩:=o;obtain⟨x,j⟩:∃x,l[k]?=some x:=⟨_,b! S⟩
  obtain⟨i,q,cs,e1,ex,M,hi,-,z,-⟩:=(r.nw L c).elt j;obtain⟨y,rfl⟩:=aAC M;obtain⟨g',C,u⟩:=Q x y g (c! j) c ex;have G:aF (X i q) g=D y g:=z g rfl 0 y rfl;simp(disch:=omega)only[vvB,seval,LC,EL,f0,f1,m,e1,G,C];by_cases t:p x=true
  ·simp only[vvB,seval,t,Ls,m];refine⟨?_,c.trans u⟩;simp only[vvB,seval];rw[lX j b t];rfl
  ·have d:p x=false:=by simpa using t
   simp only[vvB,seval,d];refine⟨qK2 m,qK2 J,(),by simp only[Fa,vvB,seval,f0,f1,and_self],c.trans u,?_⟩;rw[g!,j];simp[d!,b,d]
 ·intro _ fr g w o;obtain⟨c,b⟩:=o;rw[e!]at b;exact⟨c,b⟩
 ·rintro fr g ⟨c,b⟩;simp only[vvB,seval,Lm];exact aV.ret (qT0) ⟨by rw[b];rfl,c⟩
 ·rintro fr g ⟨I,c⟩;exact aV.ret (qT1 I) ⟨rfl,c⟩
def alS{α:Type}{P:Pos->Prop}{E:El α}{h:Hp}{v f:V}{l:List α}(r:Rws P E 3 h v l)(J:E.Stable)(p:α->Bool)(hn:l.length<=1000000000)
  (M:∀a cs g,a∈l->Nw h g->E P g a cs->cs.length=3->∃g',dD uw f [.agg (V.ofList cs)] g=D (K (p a)) g'/\Nw g g'):
  ∃h',uI [v,f] h=D (Y U (fE (l.findIdx? p))) h'/\Nw h h':=by
 rw[aat]
 suffices T:aV prog [.tmp 4] (λr h'=>r=Y U (fE (l.findIdx? p))/\Nw h h') (Bl (T.set (some f) (a! 1) (T.set (some v) (a! 0) T.nil)) h) by
  obtain⟨r,h',e,rfl,c⟩:=T;exact⟨h',e,c⟩
 simp(disch:=omega)only[vvB,seval,Bl,axJ,LG,r.len,KJ];refine Oc.then (dP (σ:=Unit) (n:=l.length) (pi:=8) (pn:=7) (pc:=9) [0,1] (λ_=> [v,f]) (λk _ g=>Nw h g/\(l.take k).findIdx? p=none)
  (A:=λfr g=>Nw h g/\l.findIdx? p=none) (B:=λfr g=>fr.get (a! 4)=some (Y U (fE (l.findIdx? p)))/\Nw h g) (s:=())
  (λfr h _ k e1 e2=>by simp only[vvB,seval,LD,e1,e2]) (λfr h k _ e1=>by simp(disch:=omega)only[vvB,seval,Lr,e1]) (by decide) (by rw[dR];omega) (qK0) (qK0) (by simp only[Fa,vvB,seval,and_self]) ⟨Nw.refl _,by simp⟩ ?_ ?_) ?_ ?_
 ·intro k _ fr g Q m I w o;obtain⟨f0,f1,-⟩:=w;obtain⟨c,b⟩:=o;obtain⟨x,j⟩:∃x,l[k]?=some x:=⟨_,b! Q⟩
  obtain⟨i,q,cs,e1,ex,L,hi,-,-,y⟩:=(r.nw J c).elt j;obtain⟨g',z,u⟩:=M x cs g (c! j) c ex L;have C:=y g rfl;simp(disch:=omega)only[vvB,seval,LC,Jv,f0,f1,m,e1,C,z];by_cases t:p x=true
  ·simp only[vvB,seval,t,Ls,m];refine⟨?_,c.trans u⟩;simp only[vvB,seval];rw[lX j b t];rfl
  ·have d:p x=false:=by simpa using t
   simp only[vvB,seval,d];refine⟨qK2 m,qK2 I,(),by simp only[Fa,vvB,seval,f0,f1,and_self],c.trans u,?_⟩;rw[g!,j];simp[d!,b,d]
 ·intro _ fr g w o;obtain⟨c,b⟩:=o;rw[e!]at b;exact⟨c,b⟩
 ·rintro fr g ⟨c,b⟩;simp only[vvB,seval,Lm];exact aV.ret (qT0) ⟨by rw[b];rfl,c⟩
 ·rintro fr g ⟨G,c⟩;exact aV.ret (qT1 G) ⟨rfl,c⟩
def aiF{α:Type}{P:Pos->Prop}{E:El α}{h:Hp}{v f:V}{l:List α}(r:Rws P E 2 h v l)(J:E.Stable)(p:α->Bool)(hn:l.length<=1000000000)
  (M:∀a cs g,a∈l->Nw h g->E P g a cs->cs.length=2->∃g',dD rF f [.agg (V.ofList cs)] g=D (K (p a)) g'/\Nw g g'):
  ∃h',rG [v,f] h=D (Y U (fE (l.findIdx? p))) h'/\Nw h h':=by
 rw[YL]
 suffices T:aV prog [.tmp 4] (λr h'=>r=Y U (fE (l.findIdx? p))/\Nw h h') (zf (T.set (some f) (a! 1) (T.set (some v) (a! 0) T.nil)) h) by
  obtain⟨r,h',e,rfl,c⟩:=T;exact⟨h',e,c⟩
 simp(disch:=omega)only[vvB,seval,zf,axJ,LG,r.len,Iz];refine Oc.then (dP (σ:=Unit) (n:=l.length) (pi:=8) (pn:=7) (pc:=9) [0,1] (λ_=> [v,f]) (λk _ g=>Nw h g/\(l.take k).findIdx? p=none)
  (A:=λfr g=>Nw h g/\l.findIdx? p=none) (B:=λfr g=>fr.get (a! 4)=some (Y U (fE (l.findIdx? p)))/\Nw h g) (s:=())
  (λfr h _ k e1 e2=>by simp only[vvB,seval,LD,e1,e2]) (λfr h k _ e1=>by simp(disch:=omega)only[vvB,seval,Lr,e1]) (by decide) (by rw[dR];omega) (qK0) (qK0) (by simp only[Fa,vvB,seval,and_self]) ⟨Nw.refl _,by simp⟩ ?_ ?_) ?_ ?_
 ·intro k _ fr g Q m I w o;obtain⟨f0,f1,-⟩:=w;obtain⟨c,b⟩:=o;obtain⟨x,j⟩:∃x,l[k]?=some x:=⟨_,b! Q⟩
  obtain⟨i,q,cs,e1,ex,L,hi,-,-,y⟩:=(r.nw J c).elt j;obtain⟨g',z,u⟩:=M x cs g (c! j) c ex L;have C:=y g rfl;simp(disch:=omega)only[vvB,seval,LC,GY,f0,f1,m,e1,C,z];by_cases t:p x=true
  ·simp only[vvB,seval,t,Ls,m];refine⟨?_,c.trans u⟩;simp only[vvB,seval];rw[lX j b t];rfl
  ·have d:p x=false:=by simpa using t
   simp only[vvB,seval,d];refine⟨qK2 m,qK2 I,(),by simp only[Fa,vvB,seval,f0,f1,and_self],c.trans u,?_⟩;rw[g!,j];simp[d!,b,d]
 ·intro _ fr g w o;obtain⟨c,b⟩:=o;rw[e!]at b;exact⟨c,b⟩
 ·rintro fr g ⟨c,b⟩;simp only[vvB,seval,Lm];exact aV.ret (qT0) ⟨by rw[b];rfl,c⟩
 ·rintro fr g ⟨G,c⟩;exact aV.ret (qT1 G) ⟨rfl,c⟩
def yZ{α:Type}{P:Pos->Prop}{E:El α}{h:Hp}{v f:V}{l:List α}(r:Rws P E 10 h v l)(J:E.Stable)(p:α->Bool)(hn:l.length<=1000000000)
  (M:∀a cs g,a∈l->Nw h g->E P g a cs->cs.length=10->∃g',dD jM f [.agg (V.ofList cs)] g=D (K (p a)) g'/\Nw g g'):
  ∃h',jP [v,f] h=D (Y U (fE (l.findIdx? p))) h'/\Nw h h':=by
 rw[V8]
 suffices T:aV prog [.tmp 4] (λr h'=>r=Y U (fE (l.findIdx? p))/\Nw h h') (wI (T.set (some f) (a! 1) (T.set (some v) (a! 0) T.nil)) h) by
  obtain⟨r,h',e,rfl,c⟩:=T;exact⟨h',e,c⟩
 simp(disch:=omega)only[vvB,seval,wI,axJ,LG,r.len,Dw];refine Oc.then (dP (σ:=Unit) (n:=l.length) (pi:=8) (pn:=7) (pc:=9) [0,1] (λ_=> [v,f]) (λk _ g=>Nw h g/\(l.take k).findIdx? p=none)
  (A:=λfr g=>Nw h g/\l.findIdx? p=none) (B:=λfr g=>fr.get (a! 4)=some (Y U (fE (l.findIdx? p)))/\Nw h g) (s:=())
  (λfr h _ k e1 e2=>by simp only[vvB,seval,LD,e1,e2]) (λfr h k _ e1=>by simp(disch:=omega)only[vvB,seval,Lr,e1]) (by decide) (by rw[dR];omega) (qK0) (qK0) (by simp only[Fa,vvB,seval,and_self]) ⟨Nw.refl _,by simp⟩ ?_ ?_) ?_ ?_
 ·intro k _ fr g Q m I w o;obtain⟨f0,f1,-⟩:=w;obtain⟨c,b⟩:=o;obtain⟨x,j⟩:∃x,l[k]?=some x:=⟨_,b! Q⟩
  obtain⟨i,q,cs,e1,ex,L,hi,-,-,y⟩:=(r.nw J c).elt j;obtain⟨g',z,u⟩:=M x cs g (c! j) c ex L;have C:=y g rfl;simp(disch:=omega)only[vvB,seval,LC,CS,f0,f1,m,e1,C,z];by_cases t:p x=true
  ·simp only[vvB,seval,t,Ls,m];refine⟨?_,c.trans u⟩;simp only[vvB,seval];rw[lX j b t];rfl
  ·have d:p x=false:=by simpa using t
   simp only[vvB,seval,d];refine⟨qK2 m,qK2 I,(),by simp only[Fa,vvB,seval,f0,f1,and_self],c.trans u,?_⟩;rw[g!,j];simp[d!,b,d]
 ·intro _ fr g w o;obtain⟨c,b⟩:=o;rw[e!]at b;exact⟨c,b⟩
 ·rintro fr g ⟨c,b⟩;simp only[vvB,seval,Lm];exact aV.ret (qT0) ⟨by rw[b];rfl,c⟩
 ·rintro fr g ⟨G,c⟩;exact aV.ret (qT1 G) ⟨rfl,c⟩
def RS{α:Type}{P:Pos->Prop}{E:El α}{h:Hp}{v f:V}{l:List α}(r:Rws P E 9 h v l)(J:E.Stable)(p:α->Bool)(hn:l.length<=1000000000)
  (M:∀a cs g,a∈l->Nw h g->E P g a cs->cs.length=9->∃g',dD y8 f [.agg (V.ofList cs)] g=D (K (p a)) g'/\Nw g g'):
  ∃h',kT [v,f] h=D (Y U (fE (l.findIdx? p))) h'/\Nw h h':=by
 rw[YK]
 suffices T:aV prog [.tmp 4] (λr h'=>r=Y U (fE (l.findIdx? p))/\Nw h h') (y9 (T.set (some f) (a! 1) (T.set (some v) (a! 0) T.nil)) h) by
  obtain⟨r,h',e,rfl,c⟩:=T;exact⟨h',e,c⟩
 simp(disch:=omega)only[vvB,seval,y9,axJ,LG,r.len,Iy];refine Oc.then (dP (σ:=Unit) (n:=l.length) (pi:=8) (pn:=7) (pc:=9) [0,1] (λ_=> [v,f]) (λk _ g=>Nw h g/\(l.take k).findIdx? p=none)
  (A:=λfr g=>Nw h g/\l.findIdx? p=none) (B:=λfr g=>fr.get (a! 4)=some (Y U (fE (l.findIdx? p)))/\Nw h g) (s:=())
  (λfr h _ k e1 e2=>by simp only[vvB,seval,LD,e1,e2]) (λfr h k _ e1=>by simp(disch:=omega)only[vvB,seval,Lr,e1]) (by decide) (by rw[dR];omega) (qK0) (qK0) (by simp only[Fa,vvB,seval,and_self]) ⟨Nw.refl _,by simp⟩ ?_ ?_) ?_ ?_
 ·intro k _ fr g Q m I w o;obtain⟨f0,f1,-⟩:=w;obtain⟨c,b⟩:=o;obtain⟨x,j⟩:∃x,l[k]?=some x:=⟨_,b! Q⟩
  obtain⟨i,q,cs,e1,ex,L,hi,-,-,y⟩:=(r.nw J c).elt j;obtain⟨g',z,u⟩:=M x cs g (c! j) c ex L;have C:=y g rfl;simp(disch:=omega)only[vvB,seval,LC,GI,f0,f1,m,e1,C,z];by_cases t:p x=true
  ·simp only[vvB,seval,t,Ls,m];refine⟨?_,c.trans u⟩;simp only[vvB,seval];rw[lX j b t];rfl
  ·have d:p x=false:=by simpa using t
   simp only[vvB,seval,d];refine⟨qK2 m,qK2 I,(),by simp only[Fa,vvB,seval,f0,f1,and_self],c.trans u,?_⟩;rw[g!,j];simp[d!,b,d]
 ·intro _ fr g w o;obtain⟨c,b⟩:=o;rw[e!]at b;exact⟨c,b⟩
 ·rintro fr g ⟨c,b⟩;simp only[vvB,seval,Lm];exact aV.ret (qT0) ⟨by rw[b];rfl,c⟩
 ·rintro fr g ⟨G,c⟩;exact aV.ret (qT1 G) ⟨rfl,c⟩
def alT{α:Type}{P:Pos->Prop}{E:El α}{h:Hp}{v f:V}{l:List α}(r:Rws P E 3 h v l)(J:E.Stable)(p:α->Bool)(hn:l.length<=1000000000)
  (M:∀a cs g,a∈l->Nw h g->E P g a cs->cs.length=3->∃g',dD oN f [.agg (V.ofList cs)] g=D (K (p a)) g'/\Nw g g'):
  ∃h',uJ [v,f] h=D (Y U (fE (l.findIdx? p))) h'/\Nw h h':=by
 rw[aav]
 suffices T:aV prog [.tmp 4] (λr h'=>r=Y U (fE (l.findIdx? p))/\Nw h h') (Bq (T.set (some f) (a! 1) (T.set (some v) (a! 0) T.nil)) h) by
  obtain⟨r,h',e,rfl,c⟩:=T;exact⟨h',e,c⟩
 simp(disch:=omega)only[vvB,seval,Bq,axJ,LG,r.len,KN];refine Oc.then (dP (σ:=Unit) (n:=l.length) (pi:=8) (pn:=7) (pc:=9) [0,1] (λ_=> [v,f]) (λk _ g=>Nw h g/\(l.take k).findIdx? p=none)
  (A:=λfr g=>Nw h g/\l.findIdx? p=none) (B:=λfr g=>fr.get (a! 4)=some (Y U (fE (l.findIdx? p)))/\Nw h g) (s:=())
  (λfr h _ k e1 e2=>by simp only[vvB,seval,LD,e1,e2]) (λfr h k _ e1=>by simp(disch:=omega)only[vvB,seval,Lr,e1]) (by decide) (by rw[dR];omega) (qK0) (qK0) (by simp only[Fa,vvB,seval,and_self]) ⟨Nw.refl _,by simp⟩ ?_ ?_) ?_ ?_
 ·intro k _ fr g Q m I w o;obtain⟨f0,f1,-⟩:=w;obtain⟨c,b⟩:=o;obtain⟨x,j⟩:∃x,l[k]?=some x:=⟨_,b! Q⟩
  obtain⟨i,q,cs,e1,ex,L,hi,-,-,y⟩:=(r.nw J c).elt j;obtain⟨g',z,u⟩:=M x cs g (c! j) c ex L;have C:=y g rfl;simp(disch:=omega)only[vvB,seval,LC,JM,f0,f1,m,e1,C,z];by_cases t:p x=true
  ·simp only[vvB,seval,t,Ls,m];refine⟨?_,c.trans u⟩;simp only[vvB,seval];rw[lX j b t];rfl
  ·have d:p x=false:=by simpa using t
   simp only[vvB,seval,d];refine⟨qK2 m,qK2 I,(),by simp only[Fa,vvB,seval,f0,f1,and_self],c.trans u,?_⟩;rw[g!,j];simp[d!,b,d]
 ·intro _ fr g w o;obtain⟨c,b⟩:=o;rw[e!]at b;exact⟨c,b⟩
 ·rintro fr g ⟨c,b⟩;simp only[vvB,seval,Lm];exact aV.ret (qT0) ⟨by rw[b];rfl,c⟩
 ·rintro fr g ⟨G,c⟩;exact aV.ret (qT1 G) ⟨rfl,c⟩
def Qw{α:Type}{P:Pos->Prop}{E:El α}{h:Hp}{v f:V}{l:List α}(r:Rws P E 1 h v l)(d:E.Stable)(p:α->Bool)(hn:l.length<=1000000000)
  (e:∀a x g,a∈l->Nw h g->E P g a [x]->∃g',dD qh f [x] g=D (K (p a)) g'/\Nw g g'):
  ∃h',jk [v,f] h=D (K (l.any p)) h'/\Nw h h':=by
 obtain⟨c,e1,b⟩:=an6 r d p hn e;rw[Wu];simp(disch:=omega)only[vvB,seval,KD,af7,EQ,e1];exact⟨c,by simp only[bV,bQ,vvB,seval,bT];rw[Aj],b⟩
def ahU{α:Type}{P:Pos->Prop}{E:El α}{h:Hp}{v f:V}{l:List α}(r:Rws P E 6 h v l)(d:E.Stable)(p:α->Bool)(hn:l.length<=1000000000)
  (e:∀a cs g,a∈l->Nw h g->E P g a cs->cs.length=6->∃g',dD kM f [.agg (V.ofList cs)] g=D (K (p a)) g'/\Nw g g'):
  ∃h',mX [v,f] h=D (K (l.any p)) h'/\Nw h h':=by
 obtain⟨c,e1,b⟩:=zq r d p hn e;rw[Wv];simp(disch:=omega)only[vvB,seval,KE,af7,ES,e1];exact⟨c,by simp only[bV,bQ,vvB,seval,bT];rw[Aj],b⟩
def IK{α:Type}{P:Pos->Prop}{E:El α}{h:Hp}{v f:V}{l:List α}(r:Rws P E 1 h v l)(d:E.Stable)(p:α->Bool)(hn:l.length<=1000000000)
  (e:∀a x g,a∈l->Nw h g->E P g a [x]->∃g',dD kz f [x] g=D (K (p a)) g'/\Nw g g'):
  ∃h',nU [v,f] h=D (K (l.any p)) h'/\Nw h h':=by
 obtain⟨c,e1,b⟩:=tu r d p hn e;rw[RQ];simp(disch:=omega)only[vvB,seval,Dv,af7,zL,e1];exact⟨c,by simp only[bV,bQ,vvB,seval,bT];rw[Aj],b⟩
def ae6{α:Type}{P:Pos->Prop}{E:El α}{h:Hp}{v f:V}{l:List α}(r:Rws P E 3 h v l)(d:E.Stable)(p:α->Bool)(hn:l.length<=1000000000)
  (e:∀a cs g,a∈l->Nw h g->E P g a cs->cs.length=3->∃g',dD uw f [.agg (V.ofList cs)] g=D (K (p a)) g'/\Nw g g'):
  ∃h',lJ [v,f] h=D (K (l.any p)) h'/\Nw h h':=by
 obtain⟨c,e1,b⟩:=alS r d p hn e;rw[V9];simp(disch:=omega)only[vvB,seval,Ip,af7,C9,e1];exact⟨c,by simp only[bV,bQ,vvB,seval,bT];rw[Aj],b⟩
def acG{α:Type}{P:Pos->Prop}{E:El α}{h:Hp}{v f:V}{l:List α}(r:Rws P E 2 h v l)(d:E.Stable)(p:α->Bool)(hn:l.length<=1000000000)
  (e:∀a cs g,a∈l->Nw h g->E P g a cs->cs.length=2->∃g',dD rF f [.agg (V.ofList cs)] g=D (K (p a)) g'/\Nw g g'):
  ∃h',oH [v,f] h=D (K (l.any p)) h'/\Nw h h':=by
 obtain⟨c,e1,b⟩:=aiF r d p hn e;rw[TI];simp(disch:=omega)only[vvB,seval,EU,af7,Ba,e1];exact⟨c,by simp only[bV,bQ,vvB,seval,bT];rw[Aj],b⟩
def MC{α:Type}{P:Pos->Prop}{E:El α}{h:Hp}{v f:V}{l:List α}(r:Rws P E 3 h v l)(d:E.Stable)(p:α->Bool)(hn:l.length<=1000000000)
  (e:∀a cs g,a∈l->Nw h g->E P g a cs->cs.length=3->∃g',dD oN f [.agg (V.ofList cs)] g=D (K (p a)) g'/\Nw g g'):
  ∃h',iY [v,f] h=D (K (l.any p)) h'/\Nw h h':=by
 obtain⟨c,e1,b⟩:=alT r d p hn e;rw[Wi];simp(disch:=omega)only[vvB,seval,Ir,af7,Dq,e1];exact⟨c,by simp only[bV,bQ,vvB,seval,bT];rw[Aj],b⟩
def atZ(x:Int)(h:Hp):nK [iV x] h=D (K false) h:=by
 rw[Wj];simp only[vvB,seval,RI,ajr,Kz,decide_false,not_true];simp only[bV,bQ,vvB,seval,bT]
def ahV(x y:Int)(h:Hp):KT [iV x,iV y] h=D (K (ltI x y)) h:=by
 rw[apL];simp only[vvB,seval,ahz,af7,aag,atZ];simp only[bV,bQ,vvB,seval,bT]<;>rfl
def aeV{h:Hp}{i:Pos}{f:Bool}{l:List Int}(W:Kn h i (O (N 3 f) (l.map iV)))(hn:l.length<=1000):
  ∃u h',iD [.slice i 0 l.length (.un 1),Y U 0,Y U (l.length:Int)] h=D u h'/\Kn h' i (O (N 3 f) ((gu ltI l.length l).map iV))/\Ch (λj=>j=i) h h':=by
 rw[rQ]
 suffices T:aV prog [] (λu h'=>Kn h' i (O (N 3 f) ((gu ltI l.length l).map iV))/\Ch (λj=>j=i) h h') (iC (T.set (some (Y U (l.length:Int))) (a! 2) (T.set (some (Y U 0)) (a! 1) (T.set (some (.slice i 0 l.length (.un 1))) (a! 0) T.nil))) h) by
  obtain⟨u,h',e,q⟩:=T;exact⟨u,h',e,q⟩
 by_cases hz:l.length=0
 ·simp(disch:=omega)only[vvB,seval,iC,jH];refine Oc.out (dX (n:=0) (λm fr g=>fr.get (a! 6)=some (Y U 1)/\fr.get (a! 2)=some (Y U (l.length:Int))/\g=h) (A:=λfr g=>g=h) (B:=λ_ _=>False) (by rw[dR];omega) ⟨qK1,qK0,rfl⟩ ?_) ?_ ?_
  ·rintro m fr g ⟨b,f2,rfl⟩;simp(disch:=omega)only[vvB,seval,iK,iJ,b,f2];exact⟨rfl,rfl⟩
  ·rintro fr g rfl;refine aV.nor (qT0) ⟨?_,Ch.refl _ _⟩;rw[hz];exact W
  ·intro fr g q;exact q.elim
 have L:∀{g:Hp} {m:List Int} {j:Nat} {x:Int},Kn g i (O (N 3 f) (m.map iV))->m[j]?=some x->aF (X i j) g=D (iV x) g:=λk e=>k.ld (by rw[l!,e];rfl);have St:∀{g:Hp} {m:List Int} {j:Nat} (x:Int),Kn g i (O (N 3 f) (m.map iV))->j<m.length->aS 1 (X i j) (iV x) g=D V.undef (g.put i (some (O (N 3 f) ((m.set j x).map iV)))):=λ{g m j} x k e=>by
  rw[k.st ⟨rfl,rfl⟩ (by rw[o!];exact e),t!]
 have E:∀(g:Hp) (j:Nat),j<l.length->aX 1 (.slice i 0 l.length (.un 1)) (Y U (j:Int)) g=D (X i j) g:=λg j e=>by rw[oD e,n!,v!]
 simp(disch:=omega)only[vvB,seval,iC,jH];refine Oc.out (dX (n:=l.length - 1) (λm fr g=>∃k:Nat,1<=k/\k+m=l.length/\fr.get (a! 6)=some (Y U (k:Int))/\fr.get (a! 2)=some (Y U (l.length:Int))/\fr.get (a! 1)=some (Y U 0)/\fr.get (a! 0)=some (.slice i 0 l.length (.un 1))/\
   Kn g i (O (N 3 f) ((gu ltI k l).map iV))/\Ch (λj=>j=i) h g) (A:=λfr g=>Kn g i (O (N 3 f) ((gu ltI l.length l).map iV))/\Ch (λj=>j=i) h g) (B:=λ_ _=>False) (by rw[dR];omega) ?_ ?_) ?_ ?_
 ·exact⟨1,by omega,by omega,qK1,qK0,qK0,qK0,W,Ch.refl _ _⟩
 ·rintro m fr g ⟨k,h1,hk,b,f2,f1,f0,a,d⟩;by_cases hm:m=0
  ·simp(disch:=omega)only[vvB,seval,iK,iJ,b,f2];rw[show k=l.length by omega]at a;exact⟨rfl,a,d⟩
  simp(disch:=omega)only[vvB,seval,iK,iJ,tJ,b,f2];refine Oc.out (Q:=λo=>LS _ _ _ _ (oC (Dz 1 o) ajo)) (dX (n:=k) (λj fr g=>∃t:List Int,t.length=l.length/\abm ltI j t=gu ltI (k+1) l/\fr.get (a! 7)=some (Y U (j:Int))/\fr.get (a! 6)=some (Y U (k:Int))/\fr.get (a! 2)=some (Y U (l.length:Int))/\fr.get (a! 1)=some (Y U 0)/\fr.get (a! 0)=some (.slice i 0 l.length (.un 1))/\
   Kn g i (O (N 3 f) (t.map iV))/\Ch (λj=>j=i) h g/\j<l.length) (A:=λfr g=>fr.get (a! 6)=some (Y U (k:Int))/\fr.get (a! 2)=some (Y U (l.length:Int))/\fr.get (a! 1)=some (Y U 0)/\fr.get (a! 0)=some (.slice i 0 l.length (.un 1))/\Kn g i (O (N 3 f) ((gu ltI (k+1) l).map iV))/\Ch (λj=>j=i) h g) (B:=λ_ _=>False) (by rw[dR];omega) ?_ ?_) ?_ ?_
  ·exact⟨gu ltI k l,xJ _ _ _,rfl,qK0,qK2 b,qK2 f2,qK2 f1,qK2 f0,a,d,by omega⟩
  ·rintro j fr g ⟨t,ht,hb,w,b,f2,f1,f0,a,d,hj⟩;cases j with
   |zero=>
    simp(disch:=omega)only[vvB,seval,jI,jG,w,f1,r!];exact⟨rfl,qK2 b,qK2 f2,qK2 f1,qK2 f0,by rw[<-hb];exact a,d⟩
   |succ j=>
    obtain⟨x,M⟩:∃x,t[j+1]?=some x:=⟨_,b! (by omega)⟩
    obtain⟨y,P⟩:∃y,t[j]?=some y:=⟨_,b! (by omega)⟩
    have c:((j+1:Nat):Int) - 1=(j:Int):=by omega
    have C:=λg=>E g (j+1) hj;have z:=λg=>E g j (by omega);have I:=L a M;have G:=L a P;unfold abm at hb;rw[M,P]at hb;by_cases r:ltI x y=true
    ·obtain⟨v,p⟩:∃v,v=g.put i (some (O (N 3 f) ((t.set (j+1) y).map iV))):=⟨_,rfl⟩
     have J:=St (j:=j+1) y a (by omega);rw[<-p]at J;have Z:Kn v i (O (N 3 f) ((t.set (j+1) y).map iV)):=by rw[p];exact a.put _
     have c1:Ch (λj=>j=i) g v:=by rw[p];exact Ch.put _ _ rfl
     have S2:=St (j:=j) x Z (by simp;omega);simp(disch:=omega)only[vvB,seval,jI,jG,tH,tC,w,f1,f0,c,C,z,I,G,ahV,r,J,S2];simp only[r]at hb;exact⟨j,by omega,(t.set (j+1) y).set j x,by simp[ht],hb,qK0,qK2 b,qK2 f2,qK2 f1,qK2 f0,Z.put _,(d.trans c1 λ_ _ q=>q).trans (Ch.put (S:=λj=>j=i) _ _ rfl) λ_ _ q=>q,by omega⟩
    ·have s:ltI x y=false:=by simpa using r
     simp(disch:=omega)only[vvB,seval,jI,jG,w,f1,f0,c,C,z,I,G,ahV,s];simp only[s]at hb;exact⟨rfl,qK2 b,qK2 f2,qK2 f1,qK2 f0,by rw[<-hb];exact a,d⟩
  ·rintro fr g ⟨b,f2,f1,f0,a,d⟩;simp(disch:=omega)only[vvB,seval,ajo,b];exact⟨m - 1,by omega,k+1,by omega,by omega,qK1,qK2 f2,qK2 f1,qK2 f0,a,d⟩
  ·intro fr g q;exact q.elim
 ·rintro fr g ⟨a,d⟩;exact aV.nor (qT0) ⟨a,d⟩
 ·intro fr g q;exact q.elim
def ai2{h h':Hp}{v u:V}{n:Nat}(hl:aZ 2 v h=D (Y U (n:Int)) h)(hn:n<=12)(e:iD [v,Y U 0,Y U (n:Int)] h=D u h'):oO [v] h=D V.undef h':=by
 obtain⟨k,b,-⟩:=XK h (n:=n) (by omega);have cu:jS .u64 (Y U (n:Int)) h=D (Y .u64 (n:Int)) h:=alo (by omega) (by omega);have pd:∃a,oG [v,Y U 0,Y U (n:Int),Y U k] h=D a h':=by
  rw[TG]
  suffices T:aV prog [] (λu g=>g=h') (uZ (T.set (some (Y U k)) (a! 3) (T.set (some (Y U (n:Int))) (a! 2) (T.set (some (Y U 0)) (a! 1) (T.set (some v) (a! 0) T.nil)))) h) by
   obtain⟨u,g,e2,rfl⟩:=T;exact⟨u,e2⟩
  simp(disch:=omega)only[vvB,seval,uZ,AP,AO];refine Oc.out (dX (n:=0) (λm fr g=>fr.get (a! 0)=some v/\fr.get (a! 1)=some (Y U 0)/\fr.get (a! 2)=some (Y U (n:Int))/\g=h) (A:=λ_ _=>False) (B:=λfr g=>g=h') (by rw[dR];omega) ⟨qK0,qK0,qK0,rfl⟩ ?_) ?_ ?_
  ·rintro m fr g ⟨f0,f1,f2,rfl⟩;simp(disch:=omega)only[vvB,seval,Bv,AL,AA,Az,f0,f1,f2,k!,e];rfl
  ·intro fr g q;exact q.elim
  ·rintro fr g rfl;exact aV.ret (qT0) rfl
 obtain⟨a,c⟩:=pd;rw[apH];simp(disch:=omega)only[vvB,seval,ahr,Z9,Z8,hl,cu,b,c];rfl
def ai3{h:Hp}{v:V}(hl:aZ 2 v h=D (Y U 0) h):oO [v] h=D V.undef h:=by
 have key:∃u,iD [v,Y U 0,Y U ((0:Nat):Int)] h=D u h:=by
  rw[rQ]
  suffices T:aV prog [] (λu h'=>h'=h) (iC (T.set (some (Y U ((0:Nat):Int))) (a! 2) (T.set (some (Y U 0)) (a! 1) (T.set (some v) (a! 0) T.nil))) h) by
   obtain⟨u,h',e,rfl⟩:=T;exact⟨u,e⟩
  simp(disch:=omega)only[vvB,seval,iC,jH];refine Oc.out (dX (n:=0) (λm fr g=>fr.get (a! 6)=some (Y U 1)/\fr.get (a! 2)=some (Y U ((0:Nat):Int))/\g=h) (A:=λfr g=>g=h) (B:=λ_ _=>False) (by rw[dR];omega) ⟨qK1,qK0,rfl⟩ ?_) ?_ ?_
  ·rintro m fr g ⟨a,f2,rfl⟩;simp(disch:=omega)only[vvB,seval,iK,iJ,a,f2];exact⟨rfl,rfl⟩
  ·rintro fr g rfl;exact aV.nor (qT0) rfl
  ·intro fr g q;exact q.elim
 obtain⟨u,e⟩:=key;exact ai2 (n:=0) hl (u! _) e
def an3{h:Hp}{b:Nat}{P:Pos->Prop}{v:V}{l:List Int}(r:dF b P (flat iG) 3 1 h v l)(hn:l.length<=12):
  ∃h',oO [v] h=D V.undef h'/\dF b P (flat iG) 3 1 h' v (gu ltI l.length l)/\Ch (λj=>bI v=some j) h h':=by
 have hl:=r.len h;by_cases a:l= []
 ·subst a;exact⟨h,ai3 hl,r,Ch.refl _ _⟩
 ·obtain⟨i,f,rfl,hb,d⟩:=r.open a;have e1:(l.map iG).flatten=l.map iV:=qo l;rw[e1]at d;obtain⟨u,h',e,k,g⟩:=aeV d (by omega);refine⟨h',ai2 hl hn e,?_,g.mono λj _ q=>by rw[q];rfl⟩;have:=dF.mk (P:=P) (b:=b) (c:=iG) (w:=1) (el:=3) (f:=f) (l:=gu ltI l.length l) (λ_=>rfl) hb (by rw[show((gu ltI l.length l).map iG).flatten=(gu ltI l.length l).map iV from qo _];exact k)
  rw[xJ]at this;exact this
def aeT{h:Hp}{v:V}{P:Pos->Prop}{E:El Int}{l:List Int}(r:Rws P E 1 h v l)(hn:l.length<=1):o9 [v] h=D v h:=by
 rw[P6];simp(disch:=omega)only[vvB,seval,zW,zO,DT,Sm,r.len];simp only[bV,bQ,vvB,seval,bT]<;>rfl
def atY{h:Hp}{v:V}{P:Pos->Prop}{l:List Int}(r:Rws P (flat iG) 1 h v l)(hl:l.length<=1000)(hn:∀(k:Nat) x y,l[k]?=some x->l[k+1]?=some y->x≠y):o9 [v] h=D v h:=by
 by_cases z:l.length<=1
 ·exact aeT r z
 rw[P6]
 suffices T:aV prog [.tmp 2] (λw h'=>w=v/\h'=h) (zW (T.set (some v) (a! 0) T.nil) h) by
  obtain⟨w,h',e,rfl,rfl⟩:=T;exact e
 simp(disch:=omega)only[vvB,seval,zW,zO,DT,Sj,r.len];refine Oc.then (dX (n:=l.length - 1) (λm fr g=>∃k:Nat,k+1+m=l.length/\fr.get (a! 0)=some v/\fr.get (a! 3)=some (Y U ((k:Int)+1))/\g=h) (A:=λfr g=>fr.get (a! 0)=some v/\g=h) (B:=λ_ _=>False) (by rw[dR];omega) ⟨0,by omega,qK0,qK1,rfl⟩ ?_) ?_ ?_
 ·rintro m fr g ⟨k,E,f0,f3,rfl⟩;by_cases G:m=0
  ·simp(disch:=omega)only[vvB,seval,Eu,DR,f0,f3,r.len];exact⟨rfl,qK2 f0,rfl⟩
  ·obtain⟨x,f⟩:∃x,l[k]?=some x:=⟨_,b! (by omega)⟩
   obtain⟨y,j⟩:∃y,l[k+1]?=some y:=⟨_,b! (by omega)⟩
   obtain⟨i,q,cs,e1,ex,-,-,-,e2,-⟩:=r.elt f;obtain rfl:cs=iG x:=ex;obtain⟨i',o,a,b,u,-,-,-,c,-⟩:=r.elt j;obtain rfl:a=iG y:=u;have s:aF (X i q) g=D (iV x) g:=e2 g rfl 0 _ rfl;have t:aF (X i' o) g=D (iV y) g:=c g rfl 0 _ rfl;have p:∀g,aX 1 v (Y U ((k:Int)+1)) g=D (X i' o) g:=λg=>b g;have C:(k:Int)+1 - 1=(k:Int):=by omega
   have d:(y=x)=False:=eq_false λe=>hn k x y f j e.symm;simp(disch:=omega)only[vvB,seval,Eu,DR,RY,RZ,f0,f3,r.len,p,t,C,e1,s,d];exact⟨m - 1,by omega,k+1,by omega,qK2 f0,qK1,rfl⟩
 ·rintro fr g ⟨f0,rfl⟩;simp(disch:=omega)only[vvB,seval,Sm,f0];exact aV.ret (qT0) ⟨rfl,rfl⟩
 ·intro fr g q;exact q.elim
def amE(x:(List Nat))(h:Hp):rq [H x] h=D (K false) h:=by
 rw[ae5];simp only[vvB,seval,RI,ajr,Kz,decide_false,not_true];simp only[bV,bQ,vvB,seval,bT]
def Xx(x y:(List Nat))(h:Hp):zY [H x,H y] h=D (K (jg x y)) h:=by
 rw[ahQ];simp only[vvB,seval,Xg,af7,SE,amE,avx];simp only[bV,bQ,vvB,seval,bT]<;>rfl
def XL{h:Hp}{i:Pos}{f:Bool}{l:List (List Nat)}(W:Kn h i (O (N 9 f) (l.map H)))(hn:l.length<=1000):
  ∃u h',fZ [.slice i 0 l.length (.un 1),Y U 0,Y U (l.length:Int)] h=D u h'/\Kn h' i (O (N 9 f) ((gu jg l.length l).map H))/\Ch (λj=>j=i) h h':=by
 rw[qj]
 suffices T:aV prog [] (λu h'=>Kn h' i (O (N 9 f) ((gu jg l.length l).map H))/\Ch (λj=>j=i) h h') (fV (T.set (some (Y U (l.length:Int))) (a! 2) (T.set (some (Y U 0)) (a! 1) (T.set (some (.slice i 0 l.length (.un 1))) (a! 0) T.nil))) h) by
  obtain⟨u,h',e,q⟩:=T;exact⟨u,h',e,q⟩
 by_cases hz:l.length=0
 ·simp(disch:=omega)only[vvB,seval,fV,jH];refine Oc.out (dX (n:=0) (λm fr g=>fr.get (a! 6)=some (Y U 1)/\fr.get (a! 2)=some (Y U (l.length:Int))/\g=h) (A:=λfr g=>g=h) (B:=λ_ _=>False) (by rw[dR];omega) ⟨qK1,qK0,rfl⟩ ?_) ?_ ?_
  ·rintro m fr g ⟨b,f2,rfl⟩;simp(disch:=omega)only[vvB,seval,iw,iJ,b,f2];exact⟨rfl,rfl⟩
  ·rintro fr g rfl;refine aV.nor (qT0) ⟨?_,Ch.refl _ _⟩;rw[hz];exact W
  ·intro fr g q;exact q.elim
 have L:∀{g:Hp} {m:List (List Nat)} {j:Nat} {x:(List Nat)},Kn g i (O (N 9 f) (m.map H))->m[j]?=some x->aF (X i j) g=D (H x) g:=λk e=>k.ld (by rw[l!,e];rfl);have St:∀{g:Hp} {m:List (List Nat)} {j:Nat} (x:(List Nat)),Kn g i (O (N 9 f) (m.map H))->j<m.length->aS 1 (X i j) (H x) g=D V.undef (g.put i (some (O (N 9 f) ((m.set j x).map H)))):=λ{g m j} x k e=>by
  rw[k.st ⟨rfl,rfl⟩ (by rw[o!];exact e),t!]
 have E:∀(g:Hp) (j:Nat),j<l.length->aX 1 (.slice i 0 l.length (.un 1)) (Y U (j:Int)) g=D (X i j) g:=λg j e=>by rw[oD e,n!,v!]
 simp(disch:=omega)only[vvB,seval,fV,jH];refine Oc.out (dX (n:=l.length - 1) (λm fr g=>∃k:Nat,1<=k/\k+m=l.length/\fr.get (a! 6)=some (Y U (k:Int))/\fr.get (a! 2)=some (Y U (l.length:Int))/\fr.get (a! 1)=some (Y U 0)/\fr.get (a! 0)=some (.slice i 0 l.length (.un 1))/\
   Kn g i (O (N 9 f) ((gu jg k l).map H))/\Ch (λj=>j=i) h g) (A:=λfr g=>Kn g i (O (N 9 f) ((gu jg l.length l).map H))/\Ch (λj=>j=i) h g) (B:=λ_ _=>False) (by rw[dR];omega) ?_ ?_) ?_ ?_
 ·exact⟨1,by omega,by omega,qK1,qK0,qK0,qK0,W,Ch.refl _ _⟩
 ·rintro m fr g ⟨k,h1,hk,b,f2,f1,f0,a,d⟩;by_cases hm:m=0
  ·simp(disch:=omega)only[vvB,seval,iw,iJ,b,f2];rw[show k=l.length by omega]at a;exact⟨rfl,a,d⟩
  simp(disch:=omega)only[vvB,seval,iw,iJ,tJ,b,f2];refine Oc.out (Q:=λo=>LS _ _ _ _ (oC (Dz 1 o) ajo)) (dX (n:=k) (λj fr g=>∃t:List (List Nat),t.length=l.length/\abm jg j t=gu jg (k+1) l/\fr.get (a! 7)=some (Y U (j:Int))/\fr.get (a! 6)=some (Y U (k:Int))/\fr.get (a! 2)=some (Y U (l.length:Int))/\fr.get (a! 1)=some (Y U 0)/\fr.get (a! 0)=some (.slice i 0 l.length (.un 1))/\
   Kn g i (O (N 9 f) (t.map H))/\Ch (λj=>j=i) h g/\j<l.length) (A:=λfr g=>fr.get (a! 6)=some (Y U (k:Int))/\fr.get (a! 2)=some (Y U (l.length:Int))/\fr.get (a! 1)=some (Y U 0)/\fr.get (a! 0)=some (.slice i 0 l.length (.un 1))/\Kn g i (O (N 9 f) ((gu jg (k+1) l).map H))/\Ch (λj=>j=i) h g) (B:=λ_ _=>False) (by rw[dR];omega) ?_ ?_) ?_ ?_
  ·exact⟨gu jg k l,xJ _ _ _,rfl,qK0,qK2 b,qK2 f2,qK2 f1,qK2 f0,a,d,by omega⟩
  ·rintro j fr g ⟨t,ht,hb,w,b,f2,f1,f0,a,d,hj⟩;cases j with
   |zero=>
    simp(disch:=omega)only[vvB,seval,jc,ja,w,f1,r!];exact⟨rfl,qK2 b,qK2 f2,qK2 f1,qK2 f0,by rw[<-hb];exact a,d⟩
   |succ j=>
    obtain⟨x,M⟩:∃x,t[j+1]?=some x:=⟨_,b! (by omega)⟩
    obtain⟨y,P⟩:∃y,t[j]?=some y:=⟨_,b! (by omega)⟩
    have c:((j+1:Nat):Int) - 1=(j:Int):=by omega
    have C:=λg=>E g (j+1) hj;have z:=λg=>E g j (by omega);have I:=L a M;have G:=L a P;unfold abm at hb;rw[M,P]at hb;by_cases r:jg x y=true
    ·obtain⟨v,p⟩:∃v,v=g.put i (some (O (N 9 f) ((t.set (j+1) y).map H))):=⟨_,rfl⟩
     have J:=St (j:=j+1) y a (by omega);rw[<-p]at J;have Z:Kn v i (O (N 9 f) ((t.set (j+1) y).map H)):=by rw[p];exact a.put _
     have c1:Ch (λj=>j=i) g v:=by rw[p];exact Ch.put _ _ rfl
     have S2:=St (j:=j) x Z (by simp;omega);simp(disch:=omega)only[vvB,seval,jc,ja,tH,tC,w,f1,f0,c,C,z,I,G,Xx,r,J,S2];simp only[r]at hb;exact⟨j,by omega,(t.set (j+1) y).set j x,by simp[ht],hb,qK0,qK2 b,qK2 f2,qK2 f1,qK2 f0,Z.put _,(d.trans c1 λ_ _ q=>q).trans (Ch.put (S:=λj=>j=i) _ _ rfl) λ_ _ q=>q,by omega⟩
    ·have s:jg x y=false:=by simpa using r
     simp(disch:=omega)only[vvB,seval,jc,ja,w,f1,f0,c,C,z,I,G,Xx,s];simp only[s]at hb;exact⟨rfl,qK2 b,qK2 f2,qK2 f1,qK2 f0,by rw[<-hb];exact a,d⟩
  ·rintro fr g ⟨b,f2,f1,f0,a,d⟩;simp(disch:=omega)only[vvB,seval,ajo,b];exact⟨m - 1,by omega,k+1,by omega,by omega,qK1,qK2 f2,qK2 f1,qK2 f0,a,d⟩
  ·intro fr g q;exact q.elim
 ·rintro fr g ⟨a,d⟩;exact aV.nor (qT0) ⟨a,d⟩
 ·intro fr g q;exact q.elim
def Zr{h h':Hp}{v u:V}{n:Nat}(hl:aZ 2 v h=D (Y U (n:Int)) h)(hn:n<=12)(e:fZ [v,Y U 0,Y U (n:Int)] h=D u h'):mQ [v] h=D V.undef h':=by
 obtain⟨k,b,-⟩:=XK h (n:=n) (by omega);have cu:jS .u64 (Y U (n:Int)) h=D (Y .u64 (n:Int)) h:=alo (by omega) (by omega);have pd:∃a,lK [v,Y U 0,Y U (n:Int),Y U k] h=D a h':=by
  rw[ND]
  suffices T:aV prog [] (λu g=>g=h') (qB (T.set (some (Y U k)) (a! 3) (T.set (some (Y U (n:Int))) (a! 2) (T.set (some (Y U 0)) (a! 1) (T.set (some v) (a! 0) T.nil)))) h) by
   obtain⟨u,g,e2,rfl⟩:=T;exact⟨u,e2⟩
  simp(disch:=omega)only[vvB,seval,qB,AP,AO];refine Oc.out (dX (n:=0) (λm fr g=>fr.get (a! 0)=some v/\fr.get (a! 1)=some (Y U 0)/\fr.get (a! 2)=some (Y U (n:Int))/\g=h) (A:=λ_ _=>False) (B:=λfr g=>g=h') (by rw[dR];omega) ⟨qK0,qK0,qK0,rfl⟩ ?_) ?_ ?_
  ·rintro m fr g ⟨f0,f1,f2,rfl⟩;simp(disch:=omega)only[vvB,seval,wY,AL,AA,wO,f0,f1,f2,k!,e];rfl
  ·intro fr g q;exact q.elim
  ·rintro fr g rfl;exact aV.ret (qT0) rfl
 obtain⟨a,c⟩:=pd;rw[ahL];simp(disch:=omega)only[vvB,seval,Xf,Z9,RU,hl,cu,b,c];rfl
def Zt{h:Hp}{v:V}(hl:aZ 2 v h=D (Y U 0) h):mQ [v] h=D V.undef h:=by
 have key:∃u,fZ [v,Y U 0,Y U ((0:Nat):Int)] h=D u h:=by
  rw[qj]
  suffices T:aV prog [] (λu h'=>h'=h) (fV (T.set (some (Y U ((0:Nat):Int))) (a! 2) (T.set (some (Y U 0)) (a! 1) (T.set (some v) (a! 0) T.nil))) h) by
   obtain⟨u,h',e,rfl⟩:=T;exact⟨u,e⟩
  simp(disch:=omega)only[vvB,seval,fV,jH];refine Oc.out (dX (n:=0) (λm fr g=>fr.get (a! 6)=some (Y U 1)/\fr.get (a! 2)=some (Y U ((0:Nat):Int))/\g=h) (A:=λfr g=>g=h) (B:=λ_ _=>False) (by rw[dR];omega) ⟨qK1,qK0,rfl⟩ ?_) ?_ ?_
  ·rintro m fr g ⟨a,f2,rfl⟩;simp(disch:=omega)only[vvB,seval,iw,iJ,a,f2];exact⟨rfl,rfl⟩
  ·rintro fr g rfl;exact aV.nor (qT0) rfl
  ·intro fr g q;exact q.elim
 obtain⟨u,e⟩:=key;exact Zr (n:=0) hl (u! _) e
def acR{h:Hp}{b:Nat}{P:Pos->Prop}{v:V}{l:List (List Nat)}(r:dF b P (flat dN) 9 1 h v l)(hn:l.length<=12):
  ∃h',mQ [v] h=D V.undef h'/\dF b P (flat dN) 9 1 h' v (gu jg l.length l)/\Ch (λj=>bI v=some j) h h':=by
 have hl:=r.len h;by_cases a:l= []
 ·subst a;exact⟨h,Zt hl,r,Ch.refl _ _⟩
 ·obtain⟨i,f,rfl,hb,d⟩:=r.open a;have e1:(l.map dN).flatten=l.map H:=qo l;rw[e1]at d;obtain⟨u,h',e,k,g⟩:=XL d (by omega);refine⟨h',Zr hl hn e,?_,g.mono λj _ q=>by rw[q];rfl⟩;have:=dF.mk (P:=P) (b:=b) (c:=dN) (w:=1) (el:=9) (f:=f) (l:=gu jg l.length l) (λ_=>rfl) hb (by rw[show((gu jg l.length l).map dN).flatten=(gu jg l.length l).map H from qo _];exact k)
  rw[xJ]at this;exact this
def amD{h:Hp}{v:V}{P:Pos->Prop}{E:El (List Nat)}{l:List (List Nat)}(r:Rws P E 1 h v l)(hn:l.length<=1):oQ [v] h=D v h:=by
 rw[IE];simp(disch:=omega)only[vvB,seval,uD,zO,DT,Sm,r.len];simp only[bV,bQ,vvB,seval,bT]<;>rfl
def jW{α:Type}(e:FuncId->Option Fun)(P:Pos->Prop)(E:El α)(h:Hp)(f:V)(l:List α):Prop:=
 ∀(g:Hp) (i j:Nat) (x y:α) (a b:List V),Nw h g->i<j->l[i]?=some x->l[j]?=some y->E P g x a->E P g y b->a.length=9->b.length=9->∃g',dD e f [.agg (V.ofList b),.agg (V.ofList a)] g=D (Y U 1) g'/\Nw g g'
def aiE{α:Type}{P:Pos->Prop}{E:El α}{h:Hp}{v f:V}{l:List α}(r:Rws P E 9 h v l)(w:E.Stable)(hn:l.length<=1000)(W:jW mM P E h f l):
  ∃u h',jJ [v,Y U 0,Y U (l.length:Int),f] h=D u h'/\Nw h h':=by
 rw[E8]
 suffices T:aV prog [] (λu h'=>Nw h h') (mO (T.set (some f) (a! 3) (T.set (some (Y U (l.length:Int))) (a! 2) (T.set (some (Y U 0)) (a! 1) (T.set (some v) (a! 0) T.nil)))) h) by
  obtain⟨u,h',e,c⟩:=T;exact⟨u,h',e,c⟩
 simp(disch:=omega)only[vvB,seval,mO,qQ];refine Oc.out (dX (n:=l.length) (λm fr g=>∃k:Nat,l.length<=k+m/\fr.get (a! 8)=some (Y U ((k:Int)+1))/\fr.get (a! 3)=some f/\fr.get (a! 2)=some (Y U (l.length:Int))/\fr.get (a! 1)=some (Y U 0)/\fr.get (a! 0)=some v/\Nw h g/\k<=l.length) (A:=λfr g=>Nw h g) (B:=λ_ _=>False) (by rw[dR];omega) ?_ ?_) ?_ ?_
 ·exact⟨0,by omega,qK1,qK0,qK0,qK0,qK0,Nw.refl _,by omega⟩
 ·rintro m fr g ⟨k,hk,b,f3,f2,f1,f0,a,Z⟩;by_cases hm:l.length<=k+1
  ·simp(disch:=omega)only[vvB,seval,lH,lG,b,f2];exact⟨rfl,a⟩
  simp(disch:=omega)only[vvB,seval,lH,lG,qP,b,f2];refine Oc.out (Q:=λo=>LS _ _ _ _ (oC (Dz 1 o) Lr)) (dX (n:=0) (λj fr g'=>fr.get (a! 9)=some (Y U ((k:Int)+1))/\fr.get (a! 8)=some (Y U ((k:Int)+1))/\fr.get (a! 3)=some f/\fr.get (a! 2)=some (Y U (l.length:Int))/\fr.get (a! 1)=some (Y U 0)/\fr.get (a! 0)=some v/\g'=g) (A:=λfr g=>fr.get (a! 8)=some (Y U ((k:Int)+1))/\fr.get (a! 3)=some f/\fr.get (a! 2)=some (Y U (l.length:Int))/\fr.get (a! 1)=some (Y U 0)/\fr.get (a! 0)=some v/\Nw h g) (B:=λ_ _=>False) (by rw[dR];omega) ?_ ?_) ?_ ?_
  ·exact⟨qK0,qK2 b,qK2 f3,qK2 f2,qK2 f1,qK2 f0,rfl⟩
  ·rintro j fr g' ⟨S,b,f3,f2,f1,f0,rfl⟩;obtain⟨x,z⟩:∃x,l[k]?=some x:=⟨_,b! (by omega)⟩
   obtain⟨y,C⟩:∃y,l[k+1]?=some y:=⟨_,b! (by omega)⟩
   obtain⟨i,q,I,e1,ex,lx,-,-,-,n1⟩:=(r.nw w a).elt z;obtain⟨i',q',J,e2,M,ly,-,-,-,n2⟩:=(r.nw w a).elt C;have s:=n1 g' rfl;have t:=n2 g' rfl;have p:∀g,aX 9 v (Y U ((k:Int)+1)) g=D (X i' q') g:=λg=>e2 g;have d:(k:Int)+1 - 1=(k:Int):=by omega
   obtain⟨g2,L,G⟩:=W g' k (k+1) x y I J a (by omega) z C ex M lx ly;simp(disch:=omega)only[vvB,seval,qY,qO,S,f1,f0,f3,p,t,d,e1,s,L];exact⟨rfl,qK2 b,qK2 f3,qK2 f2,qK2 f1,qK2 f0,a.trans G⟩
  ·rintro fr g ⟨b,f3,f2,f1,f0,a⟩;simp(disch:=omega)only[vvB,seval,Lr,b];exact⟨m - 1,by omega,k+1,by omega,qK1,qK2 f3,qK2 f2,qK2 f1,qK2 f0,a,by omega⟩
  ·intro fr g q;exact q.elim
 ·rintro fr g a;exact aV.nor (qT0) a
 ·intro fr g q;exact q.elim
def MX{α:Type}{P:Pos->Prop}{E:El α}{h:Hp}{v f s:V}{l:List α}(r:Rws P E 9 h v l)(G:E.Stable)(u:jW iH P E h f l){i j:Nat}(a:i<j)(hj:j<l.length):
  ∃h',jf [v,Y U (i:Int),Y U (j:Int),s,f] h=D (.tuple (.cons (Y U (i:Int)) (.cons (Y U (j:Int)) .nil))) h'/\Nw h h':=by
 obtain⟨x,d⟩:∃x,l[i]?=some x:=⟨_,b! (by omega)⟩
 obtain⟨y,e⟩:∃y,l[j]?=some y:=⟨_,b! hj⟩
 obtain⟨p,q,k,e1,ex,w,-,-,-,B⟩:=r.elt d;obtain⟨I,J,m,e2,o,z,-,-,-,C⟩:=r.elt e;have b:=B h rfl;have c:=C h rfl;obtain⟨t,n,g⟩:=u h i j x y k m (Nw.refl _) a d e ex o w z;rw[RN];simp(disch:=omega)only[vvB,seval,Du,zB,zA,zu,e2,c,e1,b,n];exact⟨t,by simp only[bV,bQ,vvB,seval,bT]<;>rfl,g⟩
def aq0{α:Type}{P:Pos->Prop}{E:El α}{h:Hp}{v f s:V}{l:List α}(r:Rws P E 9 h v l)(a:E.Stable)(o:jW iH P E h f l){i j k:Nat}(d:i<j)(m:j<k)(B:k<l.length):
  ∃h',nT [v,Y U (i:Int),Y U (j:Int),Y U (k:Int),s,f] h=D (Y U (j:Int)) h'/\Nw h h':=by
 have n:∀{g},Nw h g->jW iH P E g f l:=λc g' i j x y t u p=>o g' i j x y t u (c.trans p);obtain⟨C,e1,b⟩:=MX (s:=s) r a o d (by omega);obtain⟨G,e2,e⟩:=MX (s:=s) (r.nw a b) a (n b) m B;obtain⟨z,w,q⟩:=MX (s:=s) ((r.nw a b).nw a e) a (n (b.trans e)) d (by omega);rw[RP];simp(disch:=omega)only[vvB,seval,rZ,zH,zG,zF,zC,e1,e2,w];exact⟨z,by simp only[bV,bQ,vvB,seval,bT]<;>rfl,(b.trans e).trans q⟩
def ae7{α:Type}{P:Pos->Prop}{E:El α}{h:Hp}{v f:V}{l:List α}(r:Rws P E 9 h v l)(z:E.Stable)(Q:jW iH P E h f l)(h8:8<=l.length)(M:l.length<50):
  ∃p h',kD [v,Y U 0,Y U (l.length:Int),f] h=D (.tuple (.cons p (.cons (Y U 1) .nil))) h'/\Nw h h':=by
 obtain⟨Z,o,m,S⟩:=mkW h (O (N 3 true) [Y U 0]);have J:∀{g},Nw h g->jW iH P E g f l:=λc g' i j x y G I C=>Q g' i j x y G I (c.trans C);obtain⟨q,hq⟩:∃q:Nat,q=l.length / 4:=⟨_,rfl⟩
 have t:1<=q/\q*3<l.length:=by omega
 obtain⟨L,e2,w⟩:=aq0 (s:=X h.next 0) (r.nw z m) z (J m) (i:=q*1) (j:=q*2) (k:=q*3) (by omega) (by omega) t.2;have W:∀g,aH .quo .none (Y U (l.length:Int)) (Y U 4) g=D (Y U (q:Int)) g:=λg=>by
  have e:Int.tdiv (l.length:Int) 4=(q:Int):=by rw[Int.tdiv_eq_ediv_of_nonneg (by omega)];omega
  rw[avz (by omega) (by rw[e];omega) (by rw[e];omega),e]
 have u:∀g (n:Nat),n<=3->aH .mul .none (Y U (q:Int)) (Y U (n:Int)) g=D (Y U ((q*n:Nat):Int)) g:=λg n hn=>by
  have e:(q:Int)*(n:Int)=((q*n:Nat):Int):=by simp
  have:q*n<=q*3:=Nat.mul_le_mul_left _ hn;rw[avC (by rw[e];omega) (by rw[e];omega),e]
 have a:=λg=>u g 1 (by omega);have b:=λg=>u g 2 (by omega);have d:=λg=>u g 3 (by omega);simp only[Int.natCast_one,show((2:Nat):Int)=2 from rfl,show((3:Nat):Int)=3 from rfl]at a b d;have B:=(S.nw w).ld (q:=0) (x:=Y U 0) rfl;rw[IQ];simp(disch:=omega)only[vvB,seval,wJ,uq,AL,um,uj,uh,ug,uf,tZ,rP,rO,rJ,rH,k!,Int.zero_add,<-o,W,a,b,d,e2,B];exact⟨_,L,by simp only[bV,bQ,vvB,seval,bT]<;>rfl,m.trans w⟩
def an4{α:Type}{P:Pos->Prop}{E:El α}{h:Hp}{v f:V}{l:List α}(r:Rws P E 9 h v l)(z:E.Stable)(hn:l.length<=1000)(Z:1<=l.length)(hc:jW jK P E h f l):
  ∃h',iF [v,Y U 0,Y U (l.length:Int),f] h=D (K true) h'/\Nw h h':=by
 rw[yt]
 suffices T:aV prog [.tmp 8] (λr h'=>r=K true/\Nw h h') (jL (T.set (some f) (a! 3) (T.set (some (Y U (l.length:Int))) (a! 2) (T.set (some (Y U 0)) (a! 1) (T.set (some v) (a! 0) T.nil)))) h) by
  obtain⟨r,h',e,rfl,c⟩:=T;exact⟨h',e,c⟩
 simp(disch:=omega)only[vvB,seval,jL,nH,nG,nD];refine Oc.then (dX (n:=0) (λm fr g=>fr.get (a! 10)=some (Y U 0)/\fr.get (a! 9)=some (Y U 1)/\fr.get (a! 3)=some f/\fr.get (a! 2)=some (Y U (l.length:Int))/\fr.get (a! 0)=some v/\g=h) (A:=λ_ _=>False) (B:=λfr g=>fr.get (a! 8)=some (K true)/\Nw h g) (by rw[dR];omega) ⟨qK0,qK1,qK0,qK0,qK0,rfl⟩ ?_) ?_ ?_
 ·rintro m fr g ⟨p,b,f3,f2,f0,rfl⟩;simp(disch:=omega)only[vvB,seval,nI,nC,p];refine Oc.out (Q:=λo=>LS _ _ _ _ (oC (Dz 1 (oC o _)) ny)) (dX (n:=l.length) (λm fr g'=>∃k:Nat,k+1+m=l.length+1/\fr.get (a! 9)=some (Y U ((k:Int)+1))/\fr.get (a! 3)=some f/\fr.get (a! 2)=some (Y U (l.length:Int))/\fr.get (a! 0)=some v/\Nw g g'/\k+1<=l.length) (A:=λfr g'=>fr.get (a! 9)=some (Y U (l.length:Int))/\fr.get (a! 2)=some (Y U (l.length:Int))/\Nw g g') (B:=λ_ _=>False) (by rw[dR];omega) ⟨0,by omega,qK3 b,qK2 f3,qK2 f2,qK2 f0,Nw.refl _,Z⟩ ?_) ?_ ?_
  ·rintro m fr g' ⟨k,hk,b,f3,f2,f0,a,aa⟩;by_cases hm:k+1=l.length
   ·have t:((k:Int)+1<(l.length:Int))=False:=eq_false (by omega);simp(disch:=omega)only[vvB,seval,jv,jr,b,f2,t];exact⟨rfl,by simp only[vvB,seval,b];rw[<-hm];rfl,qK2 f2,a⟩
   ·obtain⟨x,C⟩:∃x,l[k]?=some x:=⟨_,b! (by omega)⟩
    obtain⟨y,G⟩:∃y,l[k+1]?=some y:=⟨_,b! (by omega)⟩
    obtain⟨i,q,J,e1,ex,lx,-,-,-,n1⟩:=(r.nw z a).elt C;obtain⟨i',q',L,e2,S,ly,-,-,-,n2⟩:=(r.nw z a).elt G;have u:=n1 g' rfl;have w:=n2 g' rfl;have j:∀g,aX 9 v (Y U ((k:Int)+1)) g=D (X i' q') g:=λg=>e2 g;have d:(k:Int)+1 - 1=(k:Int):=by omega
    have s:((1:Int)<0)=False:=eq_false (by decide);obtain⟨g2,M,I⟩:=hc g' k (k+1) x y J L a (by omega) C G ex S lx ly;simp(disch:=omega)only[vvB,seval,jv,jr,ni,b,f2,f0,f3,j,w,d,e1,u,M,s];exact⟨m - 1,by omega,k+1,by omega,qK1,qK2 f3,qK2 f2,qK2 f0,a.trans I,by omega⟩
  ·rintro fr g' ⟨b,f2,a⟩;simp(disch:=omega)only[vvB,seval,mZ,AP,b,f2];exact⟨qK0,a⟩
  ·intro fr g q;exact q.elim
 ·intro fr g q;exact q.elim
 ·rintro fr g ⟨W,a⟩;exact aV.ret (qT1 W) ⟨rfl,a⟩
def alR{α:Type}{P:Pos->Prop}{E:El α}{h:Hp}{v f:V}{l:List α}(r:Rws P E 9 h v l)(a:E.Stable)(hn:l.length<50)(p:jW mM P E h f l)(s:jW iH P E h f l)(t:jW jK P E h f l):
  ∃h',uG [v,f] h=D V.undef h'/\Nw h h':=by
 obtain⟨k,Q,w⟩:=XK h (n:=l.length) (by omega);have cu:jS .u64 (Y U (l.length:Int)) h=D (Y .u64 (l.length:Int)) h:=alo (by omega) (by omega);have pd:∃G h',mV [v,Y U 0,Y U (l.length:Int),Y U k,f] h=D G h'/\Nw h h':=by
  rw[PZ]
  suffices T:aV prog [] (λu g=>Nw h g) (qX (T.set (some f) (a! 4) (T.set (some (Y U k)) (a! 3) (T.set (some (Y U (l.length:Int))) (a! 2) (T.set (some (Y U 0)) (a! 1) (T.set (some v) (a! 0) T.nil))))) h) by
   obtain⟨u,g,e2,c⟩:=T;exact⟨u,g,e2,c⟩
  simp(disch:=omega)only[vvB,seval,qX,yL,yK];refine Oc.out (dX (n:=0) (λm fr g=>fr.get (a! 0)=some v/\fr.get (a! 1)=some (Y U 0)/\fr.get (a! 2)=some (Y U (l.length:Int))/\fr.get (a! 3)=some (Y U k)/\fr.get (a! 4)=some f/\fr.get (a! 10)=some (K true)/\fr.get (a! 11)=some (K true)/\g=h) (A:=λ_ _=>False) (B:=λfr g=>Nw h g) (by rw[dR];omega) ⟨qK0,qK0,qK0,qK0,qK0,qK0,qK0,rfl⟩ ?_) ?_ ?_
  ·rintro m fr g ⟨f0,f1,f2,f3,C,d,o,rfl⟩;by_cases Z:l.length<=12
   ·obtain⟨u,W,e,c⟩:=aiE r a (by omega) p;simp(disch:=omega)only[vvB,seval,pR,pO,pK,yJ,f0,f1,f2,C,k!,e];exact c
   ·have hk:=w (by omega);have z:(k=0)=False:=eq_false hk;obtain⟨pp,W,e1,b⟩:=ae7 r a s (by omega) hn;obtain⟨g2,e2,J⟩:=an4 (r.nw a b) a (by omega) (by omega) (f:=f) λg' i j x y L M I=>t g' i j x y L M (b.trans I);simp(disch:=omega)only[vvB,seval,pR,pO,pK,yI,yH,wX,wW,wV,wU,f0,f1,f2,f3,C,d,o,k!,z,e1,e2];exact b.trans J
  ·intro fr g q;exact q.elim
  ·rintro fr g c;exact aV.ret (qT0) c
 obtain⟨G,h',S,c⟩:=pd;refine⟨h',?_,c⟩;rw[aar];simp(disch:=omega)only[vvB,seval,PK,Jp,Jo,r.len,cu,Q,S];rfl
end Go.Proofs.Im
namespace Go.Vm
section
variable{h:Hp}{i:Pos}
def Kn.rws{α:Type}{c:α->List V}{sz:Nat}{w:Wr}{l:List α}{cp:Cap}(k:Kn h i (O w (l.map c).flatten))(f:∀x,(c x).length=sz)(b:zn sz (.slice i 0 l.length cp)):
  Rws (λj=>j=i) (flat c) sz h (.slice i 0 l.length cp) l:=by
 have e:∀d∈l.map c,d.length=sz:=λd hd=>by obtain⟨x,_,rfl⟩:=List.mem_map.1 hd;exact f x
 refine⟨l.map c,?_,e,⟨?_,.inr ⟨i,0,cp,w,_,rfl,k.2,by rw[k.1];rfl,λq _=>by rw[n!]⟩⟩,b,λj hj=>by cases hj;rfl⟩
 ·clear k b e;induction l with
  |nil=>exact .nil
  |cons a l m=>exact .cons rfl m
 ·rw[ji e,o!]
end
end Go.Vm
namespace Go.Im
section
variable{tM:TypeId}{I:Pos->Prop}{h:Hp}{v:V}{l:List Ml}
def aJv.rws(r:aJv tM I h v l):Rws (λj=>I j\/bI v=some j) jZ 8 h v l:=by
 obtain⟨b,a,c,r⟩:=r;have a':All2 (jZ (λj=>I j\/bI v=some j) h) l b:=a.mono λ_ _ e=>dI e (Nw.refl h) λj _ q=>⟨.inl q,λq=>q⟩
 rcases r with⟨rfl,rfl⟩|⟨i,f,rest,rfl,k⟩
 ·cases a;exact Rws.aP _ _ _ _
 ·refine⟨b,a',c,⟨by rw[ji c,a.len],.inr ⟨i,0,_,N tM f,b.flatten++rest,rfl,k.2,by rw[k.1];rfl,λq d=>?_⟩⟩,λ_ _ _ _ e=>(by cases e;rfl),λj hj=>.inr hj⟩;rw[n!,List.getElem?_append_left];rw[ji c,a.len];exact d
end
end Go.Im
namespace Go.Proofs.Im
section
variable{h h' g:Hp}{F I:Pos->Prop}{ps pl ib:Pos}{A:Acc}{cb:Cap}{fb:Bool}{vm vl:V}
abbrev dL(h:Hp)(F:Pos->Prop)(ps:Pos)(A:Acc)(pl ib:Pos)(cb:Cap)(fb:Bool)(vm vl:V)(I:Pos->Prop):Prop:=AccR tSt 130 55 40 85 h F ps A pl ib cb fb vm vl I
def dL.bxr(a:dL h F ps A pl ib cb fb vm vl I):Rws (λj=>j=ib) (flat gY) 6 h (.slice ib 0 A.boxes.length cb) A.boxes:=a.bx.rws (λ_=>rfl) a.cap
def dL.ch{S:Pos->Prop}(a:dL h F ps A pl ib cb fb vm vl I)(c:Ch S h h')(b:∀j,F j->¬S j):dL h' F ps A pl ib cb fb vm vl I where
 st:=a.st.ch c (b _ a.foot.1)
 lg:=a.lg.ch c (b _ a.foot.2.1)
 bx:=a.bx.ch c (b _ a.foot.2.2.1)
 cap:=a.cap
 ml:=by
  obtain⟨d,x,m,r⟩:=a.ml;exact⟨d,x.mono λ_ _ e=>dI e c λj _ q=>⟨q,b j (a.inn j q).1⟩,m,r.imp id λ⟨i,f,rest,e,k⟩=>⟨i,f,rest,e,k.ch c (b i (a.foot.2.2.2.1 i (by rw[e];rfl)))⟩⟩
 en:=a.en.ch (aJ _) c (λj e=>b j (a.foot.2.2.2.2 j e)) λ_ _ q=>q.elim
 ne:=a.ne
 nm:=a.nm
 nl:=a.nl
 inn:=a.inn
 foot:=a.foot
 lt:=λj f=>Nat.lt_of_lt_of_le (a.lt j f) c.next
 enil:=a.enil
def dL.nw(a:dL h F ps A pl ib cb fb vm vl I)(c:Nw h h'):dL h' F ps A pl ib cb fb vm vl I:=a.ch c λ_ _ q=>q
def aGo{b:Bx}{p:Pos}{n:Int}{w:Wr}(k:Kn g p (O w [iV n])):PY [.agg (V.ofList (gY b)),X p 0] g=D (K (decide (b.id=n))) (g.new (O (N 55 true) (gY b))):=by
 have e1:=(Kn.new g (O (N 55 true) (gY b))).ld (q:=0) (x:=iV b.id) rfl;have e2:=(k.add (O (N 55 true) (gY b))).ld (q:=0) (x:=iV n) rfl;rw[ayl];simp only[vvB,seval,asZ,ajU,ajT,V.cZ,e1,e2];simp only[bV,bQ,vvB,seval,bT]
def aD4{m:Ml}{vk vm:V}{p:Pos}{n:Int}{w:Wr}(k:Kn g p (O w [iV n])):KR [.agg (V.ofList (dS m vk vm)),X p 0] g=D (K (decide (m.id=n))) (g.new (O (N 40 true) (dS m vk vm))):=by
 have e1:=(Kn.new g (O (N 40 true) (dS m vk vm))).ld (q:=0) (x:=iV m.id) rfl;have e2:=(k.add (O (N 40 true) (dS m vk vm))).ld (q:=0) (x:=iV n) rfl;rw[atK];simp only[vvB,seval,apb,agk,ajT,V.cZ,e1,e2];simp only[bV,bQ,vvB,seval,bT]
def aDP(p:Pos)(x:V)(g:Hp):dD kM (.func (.func 169) .nil (.cons (X p 0) .nil)) [x] g=PY [x,X p 0] g:=(rfl)
def ay2(p:Pos)(x:V)(g:Hp):dD uz (.func (.func 77) .nil (.cons (X p 0) .nil)) [x] g=KR [x,X p 0] g:=(rfl)
def aby(a:dL h F ps A pl ib cb fb vm vl I)(o:A.Small)(n:Int):∃h',Gg [X ps 0,iV n] h=D (iV (fE (A.boxes.findIdx? λb=>decide (b.id=n)))) h'/\Nw h h':=by
 obtain⟨r,c,d,p⟩:=mkW h (O (N 3 true) [iV n]);have a1:=a.nw d;have L:=a1.st.ld (q:=10) rfl;obtain⟨m,e2,j⟩:=zq a1.bxr (aJ _) (λb=>decide (b.id=n)) (by have:=o.boxes;omega) (f:=.func (.func 169) .nil (.cons (X h.next 0) .nil)) (λb cs g _ k e _=>by
  rw[show cs=gY b from e,aDP,aGo (p.nw k)];exact⟨_,rfl,Nw.new _ _⟩)
 rw[azM];simp only[vvB,seval,axO,aoI,aoH,<-c,L,e2];exact⟨m,by simp only[bV,bQ,vvB,seval,bT],d.trans j⟩
def ast(a:dL h F ps A pl ib cb fb vm vl I)(p:A.Small)(n:Int):∃h',Xn [X ps 0,iV n] h=D (iV (fE (A.mails.findIdx? λm=>decide (m.id=n)))) h'/\Nw h h':=by
 obtain⟨s,c,d,r⟩:=mkW h (O (N 3 true) [iV n]);have a1:=a.nw d;have L:=a1.st.ld (q:=11) rfl;obtain⟨o,e2,j⟩:=UR a1.ml.rws dI (λm=>decide (m.id=n)) (by have:=p.mails;omega) (f:=.func (.func 77) .nil (.cons (X h.next 0) .nil)) (λb cs g _ k e _=>by
  obtain⟨vk,vm,rfl,-,-⟩:=e;rw[ay2,aD4 (r.nw k)];exact⟨_,rfl,Nw.new _ _⟩)
 rw[ayi];simp only[vvB,seval,asW,aoI,ajK,<-c,L,e2];exact⟨o,by simp only[bV,bQ,vvB,seval,bT],d.trans j⟩
end
section
variable{h h':Hp}{F I:Pos->Prop}{ps pl ib p:Pos}{A:Acc}{cb:Cap}{fb:Bool}{vm vl:V}
def Xy{w:Wr}{cs:List V}{q:Nat}{n:Int}(k:Kn h p (O w cs))(a:cs[q]?=some (iV n)):xg [X p q] h=D (iV n) h:=by
 have e:=ay6 k a;rw[ayx];simp only[vvB,seval,as8,akP,akO,NK,p!,e];simp only[bV,bQ,vvB,seval,bT]
def CG{t:TypeId}{f:Bool}{cs:List V}{q:Nat}{n:Int}(k:Kn h p (O (N t f) cs))(a:q<cs.length):∃u,kE [X p q,iV n] h=D u (h.put p (some (O (N t f) (cs.set q (iV n))))):=by
 have e:=awG (n:=n) k a;rw[atW];simp only[vvB,seval,apk,aha,KU,p!,e];exact⟨_,rfl⟩
def ayC{t:TypeId}{f:Bool}{cs:List V}{q:Nat}{n m:Int}(k:Kn h p (O (N t f) cs))(c:cs[q]?=some (iV n))(a: -9223372036854775808<=n+m)(b:n+m<9223372036854775808):
  aax [X p q,iV m] h=D (iV (n+m)) (h.put p (some (O (N t f) (cs.set q (iV (n+m)))))):=by
 have e:=aDW k c a b;rw[aHg];simp only[vvB,seval,aGL,axJ,axI,ayA,p!,e];simp only[bV,bQ,vvB,seval,bT]
def abx(a:dL h F ps A pl ib cb fb vm vl I):yh [X ps 0] h=D (iV A.clock) h:=by
 have e:=Xy a.st (q:=9) rfl;rw[atL];simp only[vvB,seval,apc,akP,agp,agn,fG,e];simp only[bV,bQ,vvB,seval,bT]
def asu(a:dL h F ps A pl ib cb fb vm vl I)(b:A.Small):PX [X ps 0] h=D (K false) h:=by
 have e:=abx a;have L:=a.st.ld (q:=6) (x:=iV 1073741824) rfl;have c:=b.clock;rw[ayj];simp only[vvB,seval,asX,ajr,ajM,e,L,qw rfl L];simp only[bV,bQ,vvB,seval,bT];rw[decide_eq_false (by omega)]
def asr(a:dL h F ps A pl ib cb fb vm vl I)(b:A.Small):
  PW [X ps 0] h=D (iV (A.clock+1)) (h.put ps (some (O (N tSt true) (stC {A with clock:=A.clock+1} ib cb vm pl)))):=by
 have c:=b.clock;have e:=ayC a.st (q:=9) (n:=A.clock) (m:=1) rfl (by omega) (by omega);rw[ayh];simp only[vvB,seval,asV,akP,ajF,e];simp only[bV,bQ,vvB,seval,bT];rfl
def dL.aub(a:dL h F ps A pl ib cb fb vm vl I){B:Acc}(hb:B.boxes=A.boxes)(n:B.mails=A.mails)(g:B.ents=A.ents)(m:B.floor=A.floor):
  dL (h.put ps (some (O (N tSt true) (stC B ib cb vm pl)))) F ps B pl ib cb fb vm vl I:=by
 have c:Ch (λj=>j=ps) h (h.put ps (some (O (N tSt true) (stC B ib cb vm pl)))):=Ch.put _ _ rfl;have ne:=a.ne;refine⟨a.st.put _,?_,?_,by rw[hb];exact a.cap,?_,?_,a.ne,a.nm,a.nl,a.inn,a.foot,a.lt,by rw[g];exact a.enil⟩
 ·rw[m];exact a.lg.ch c λe=>ne.1 e.symm
 ·rw[hb];exact a.bx.ch c λe=>ne.2.1 e.symm
 ·rw[n];obtain⟨b,x,d,r⟩:=a.ml;refine⟨b,x.mono λ_ _ e=>dI e c λj _ q=>⟨q,λe=>(a.inn j q).2.1 e⟩,d,r.imp id λ⟨i,f,rest,e,k⟩=>⟨i,f,rest,e,k.ch c λl=>?_⟩⟩;exact(a.nm i (by rw[e];rfl)).1 l
 ·rw[g];obtain⟨b,x,d,s⟩:=a.en;exact⟨b,x.mono λ_ _ e=>e,d,s.ch c λj hj e=>(a.nl j hj).1 e⟩
def Tz(a:dL h F ps A pl ib cb fb vm vl I)(e:A.Small):
  ∃r h',yj [X ps 0] h=D r h'/\Rws (λj=>h.next.nat<=j.nat) (flat gY) 6 h' r A.boxes/\Nw h h'/\dF h.next.nat (λ_=>False) (flat gY) 55 6 h' r A.boxes:=by
 have L:=a.st.ld (q:=10) rfl;have hb:=e.boxes;obtain⟨r,d,e1,r1,c,b⟩:=azW a.bxr (by omega);rw[atM];simp only[vvB,seval,apd,zO,agp,agr,fG,L,e1];refine⟨r,d,by simp only[bV,bQ,vvB,seval,bT],r1,c,?_⟩;rcases b with b|b
 ·rw[b]at hb;simp at hb
 ·exact b
abbrev zMl:List V:= [Y U 0,Y U 0,H [],Y U 0,.aP,.aP,Y U 0,Y U 0]
def aLk(x:V)(h:Hp):BR Tryz.prog 40 x h=bH 8 x h:=kR
def aFj{P:Pos->Prop}{m:Ml}{vk vm:V}(e:jZ P h m (dS m vk vm))(hk:m.keys.length<=1000)(hm:m.mem.length<=1000):
  ∃h' c d,Ou [.agg (V.ofList (dS m vk vm))] h=D (.agg (V.ofList (dS m c d))) h'/\Nw h h'/\jZ (λj=>h.next.nat<=j.nat) h' m (dS m c d):=by
 obtain⟨J,L,f,rk,rm⟩:=e;obtain⟨rfl,rfl⟩:vk=J/\vm=L:=by unfold dS at f;injection f with _ f;injection f with _ f;injection f with _ f;injection f with _ f;injection f with a f;injection f with b f;exact⟨a,b⟩
 obtain⟨g,w,C,k1⟩:=mkW h (O (N 40 true) (dS m vk vm));have n1:g.next.nat=h.next.nat+1:=by rw[w,bJ]
 obtain⟨h2,y,z,z2⟩:=mkW g (O (N 40 true) zMl);have n2:h2.next.nat=g.next.nat+1:=by rw[y,bJ]
 have G:=k1.nw z;obtain⟨c,h3,e3,Z,t,-⟩:=CB (rk.nw (aJ _) (C.trans z)) (by omega);have M:=G.nw t;obtain⟨d,E,e4,r4,u,-⟩:=arI (rm.nw (aJ _) ((C.trans z).trans t)) (by omega);have Q:=M.nw u;have z4:=(z2.nw t).nw u;have L1:=G.ld (q:=4) (x:=vk) rfl;have L2:=M.ld (q:=5) (x:=vm) rfl;have B:=G.ld (q:=5) (x:=vm) rfl;have n3:=t.next;have n4:=u.next;obtain⟨o,i⟩:∃o,o=E.put h.next (some (O (N 40 true) (dS m c vm))):=⟨_,rfl⟩
 have S5:aS 1 (X h.next 4) c E=D V.undef o:=by rw[i];exact Q.st (q:=4) Z.cell (show 4<8 by omega)
 have W:Kn o h.next (O (N 40 true) (dS m c vm)):=by rw[i];exact Q.put _
 have c5:Nw h o:=by rw[i];exact(((C.trans z).trans t).trans u).put (h! _) _
 have z5:Kn o g.next (O (N 40 true) zMl):=by rw[i];exact z4.Us (λe=>by have:=congrArg Pos.nat e;omega) _
 obtain⟨r,k⟩:∃r,r=o.put h.next (some (O (N 40 true) (dS m c d))):=⟨_,rfl⟩
 have S6:aS 1 (X h.next 5) d o=D V.undef r:=by rw[k];exact W.st (q:=5) r4.cell (show 5<8 by omega)
 have k6:Kn r h.next (O (N 40 true) (dS m c d)):=by rw[k];exact W.put _
 have z6:Kn r g.next (O (N 40 true) zMl):=by rw[k];exact z5.Us (λe=>by have:=congrArg Pos.nat e;omega) _
 have L6:=k6.ldN (n:=8) rfl;obtain⟨s,l⟩:∃s,s=r.put g.next (some (O (N 40 true) (dS m c d))):=⟨_,rfl⟩
 have S7:aS 8 (X g.next 0) (.agg (V.ofList (dS m c d))) r=D V.undef s:=by rw[l];exact z6.stN rfl rfl
 have z7:Kn s g.next (O (N 40 true) (dS m c d)):=by rw[l];exact z6.put _
 have c7:Nw h s:=by rw[l,k];exact(c5.put (h! _) _).put (by omega) _
 have v:Ch (λj=>j=h.next\/j=g.next) E s:=by
  rw[l,k,i];exact((Ch.put (S:=λj=>j=h.next\/j=g.next) _ _ (.inl rfl)).trans (Ch.put (S:=λj=>j=h.next\/j=g.next) _ _ (.inl rfl)) λ_ _ q=>q).trans (Ch.put (S:=λj=>j=h.next\/j=g.next) _ _ (.inr rfl)) λ_ _ q=>q
 rw[arw];simp only[vvB,seval,akX,adD,adC,adB,V.cZ,<-w,<-y,L1,e3,L2,qw rm.noF B,e4,S5,S6,L6,S7];refine⟨s,c,d,by simp only[bV,bQ,vvB,seval,aLk,z7.ldN (n:=8) rfl,bT],c7,c,d,rfl,?_,?_⟩
 ·exact Z.ch (P':=λj=>h.next.nat<=j.nat) (aJ _) (u.ch.trans v λ_ _ q=>q) λj _ q=>⟨by omega,λe=>by rcases e with rfl|rfl<;>omega⟩
 ·exact r4.ch (P':=λj=>h.next.nat<=j.nat) (aJ _) v λj _ q=>⟨by omega,λe=>by rcases e with rfl|rfl<;>omega⟩
end
section
variable{h h' g:Hp}{F I:Pos->Prop}{ps pl ib:Pos}{A:Acc}{cb:Cap}{fb:Bool}{vm vl:V}
def aTQ(m:Ml)(vk vm:V)(h:Hp):bU 40 zMl 1 [(0,8,.agg (V.ofList (dS m vk vm)))] h=D (.slice h.next 0 1 (.kn 1)) (h.new (O (N 40 true) (dS m vk vm))):=(rfl)
def abw(a:dL h F ps A pl ib cb fb vm vl I)(M:A.Small):
  ∃r h',Cb [X ps 0] h=D r h'/\gK h.next.nat jZ 40 8 h' r A.mails/\Nw h h':=by
 have L:=a.st.ld (q:=11) (x:=vm) rfl;have R:=a.ml.rws;have hn:=M.mails;rw[atJ];show aV Tryz.prog _ (λr h'=>gK h.next.nat jZ 40 8 h' r A.mails/\Nw h h') _;simp only[vvB,seval,apa,zO,agh,agf,agd,ahI,fG,L,R.len];refine Oc.then (dP (σ:=V) (n:=A.mails.length) (pi:=13) (pn:=12) (pc:=14) [3,11] (λv=> [v,vm]) (λk v g=>Nw h g/\gK h.next.nat jZ 40 8 g v (A.mails.take k))
  (A:=λfr g=>∃v,fr.get (a! 3)=some v/\Nw h g/\gK h.next.nat jZ 40 8 g v A.mails) (B:=λfr g=>False) (s:=.aP)
  (λfr h _ k e1 e2=>by simp only[vvB,seval,Po,e1,e2]) (λfr h k _ e1=>by simp(disch:=omega)only[vvB,seval,Pg,e1]) (by decide) (by rw[dR];omega) (qK0) (qK0) (by simp only[Fa,vvB,seval,and_self]) ⟨Nw.refl _,gK.nil _ _ _ _ _⟩ ?_ ?_) ?_ ?_
 ·intro k v fr g hk d w y z;obtain⟨f3,b,-⟩:=y;obtain⟨c,o⟩:=z;obtain⟨m,C⟩:∃m,A.mails[k]?=some m:=⟨_,b! hk⟩
  obtain⟨i,q,cs,e1,⟨vk,vs,rfl,rk,rs⟩,-,-,-,-,S⟩:=(R.nw dI c).elt C;have u:=S g rfl;have l:=M.each m (c! C);obtain⟨J,f,p,k2⟩:=mkW g (O (N 40 true) (dS m vk vs));have P:=mkT 8 zMl f;have n2:J.next.nat=g.next.nat+1:=by rw[f,bJ]
  obtain⟨g3,E,G,W,t,x3⟩:=aFj (show jZ _ J m (dS m vk vs) from⟨vk,vs,rfl,rk.nw (aJ _) p,rs.nw (aJ _) p⟩) l.1 l.2;have o3:=o.nw dI (p.trans t);have aa:=c.next;have ab:=t.next;obtain⟨v',g4,Z,o5,Q,n5,-⟩:=o3.app (bt:=104) dI (by omega) (cs:=dS m E G) rfl x3 (λj _ q=>⟨by omega,λe=>by have:=(o.eY e).2;omega⟩) (by rw[List.length_take];omega);simp only[vvB,seval,agb,aga,f3,b,d,e1,u,P,k2.ldN (n:=8) rfl,W,aTQ,Z];refine⟨qK2 d,qK2 w,v',by simp only[Fa,vvB,seval,b,and_self],?_,?_⟩
  ·exact((c.trans p).trans t).own Q λj e=>(o.eY e).1
  ·rw[take_snoc C];exact o5
 ·intro v fr g y z;obtain⟨f3,b,-⟩:=y;obtain⟨c,o⟩:=z;rw[e!]at o;exact⟨v,f3,c,o⟩
 ·rintro fr g ⟨v,f3,c,o⟩;simp only[vvB,seval,ajV,f3];exact aV.ret (r:=v) (qT0) ⟨o,c⟩
 ·intro fr g q;exact q.elim
def ay9{P:Pos->Prop}{m:Ml}{vk vs:V}(e:jZ P h m (dS m vk vs))(hm:m.mem.length<=1000):
  ∃r h',EY [.agg (V.ofList (dS m vk vs))] h=D r h'/\gK h.next.nat (flat iG) 3 1 h' r (m.mem.map (·.1))/\Nw h h':=by
 obtain⟨E,G,d,-,rm⟩:=e;obtain⟨rfl,rfl⟩:vk=E/\vs=G:=by unfold dS at d;injection d with _ d;injection d with _ d;injection d with _ d;injection d with _ d;injection d with a d;injection d with b d;exact⟨a,b⟩
 obtain⟨f,C,l,k1⟩:=mkW h (O (N 40 true) (dS m vk vs));have L:=k1.ld (q:=5) (x:=vs) rfl;have n1:=l.next;have R:=rm.nw (aJ _) l;rw[arp];show aV Tryz.prog _ (λr h'=>gK h.next.nat (flat iG) 3 1 h' r (m.mem.map (·.1))/\Nw h h') _;simp only[vvB,seval,akS,ac7,agf,ac5,aeN,V.cZ,<-C,L,R.len];refine Oc.then (dP (σ:=V) (n:=m.mem.length) (pi:=9) (pn:=8) (pc:=10) [3,7] (λv=> [v,vs]) (λk v g=>Nw f g/\gK f.next.nat (flat iG) 3 1 g v ((m.mem.map (·.1)).take k))
  (A:=λfr g=>∃v,fr.get (a! 3)=some v/\Nw f g/\gK f.next.nat (flat iG) 3 1 g v (m.mem.map (·.1))) (B:=λfr g=>False) (s:=.aP)
  (λfr h _ k e1 e2=>by simp only[vvB,seval,ac4,e1,e2]) (λfr h k _ e1=>by simp(disch:=omega)only[vvB,seval,ni,e1]) (by decide) (by rw[dR];omega) (qK0) (qK0) (by simp only[Fa,vvB,seval,and_self]) ⟨Nw.refl _,gK.nil _ _ _ _ _⟩ ?_ ?_) ?_ ?_
 ·intro k v fr g hk M f8 w y;obtain⟨f3,J,-⟩:=w;obtain⟨c,o⟩:=y;obtain⟨x,S⟩:∃x,m.mem[k]?=some x:=⟨_,b! hk⟩
  obtain⟨i,q,cs,e1,e2,-,-,-,-,e3⟩:=(R.nw (aJ _) c).elt S;obtain rfl:cs=gW x:=e2;have t:=e3 g rfl;obtain⟨Q,z,p,k2⟩:=mkW g (O (N 106 true) (gW x));have Z:=mkT 2 [Y U 0,Y U 0] z;have ab:=c.next;have ac:=p.next;obtain⟨W,g4,u,o5,c5,n5,-⟩:=(o.nw (aJ _) p).app (bt:=8) (x:=x.1) (cs:=iG x.1) (P0:=λ_=>False) (aJ _) (by omega) rfl rfl (λj _ q=>q.elim) (by simp;omega);have u:bZ 3 1 8 v (.slice Q.next 0 1 (.kn 1)) (Q.new (O (N 3 true) [iV x.1]))=D W g4:=u;simp only[vvB,seval,ac3,ac2,f3,J,M,e1,t,Z,k2.ld (q:=0) (x:=iV x.1) rfl,yF,u];refine⟨qK2 M,qK2 f8,W,by simp only[Fa,vvB,seval,J,and_self],?_,?_⟩
  ·exact(c.trans p).own c5 λj e=>(o.eY e).1
  ·rw[take_snoc (show(m.mem.map (·.1))[k]?=some x.1 by rw[l!,S];rfl)];exact o5
 ·intro v fr g w y;obtain⟨f3,aa,-⟩:=w;obtain⟨c,o⟩:=y;rw[List.take_of_length_le (by simp)]at o;exact⟨v,f3,c,o⟩
 ·rintro fr g ⟨v,f3,c,o⟩;simp only[vvB,seval,ajV,f3];exact aV.ret (r:=v) (qT0) ⟨o.lower (by omega),l.trans c⟩
 ·intro fr g q;exact q.elim
end
end Go.Proofs.Im
