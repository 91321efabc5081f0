/- Lemmas. No conditions. -/
import Derived.Test.YtpgppmioigacoaaGreatDoorSAQ
import Derived.Test.YtpgppmioigacoaaGreatDoorSAP
set_option linter.all false
set_option maxRecDepth 100000
open Go.Vm.Pos renaming of→a!
open List renaming getElem?_eq_getElem→b!,mem_of_getElem?→d!,findIdx?_append→e!,take_add_one→g!,take_length→i!,length_eq_zero_iff→j!,length_pos_iff→l!,length_map→q!,length_eraseIdx_of_lt→r!,mem_of_mem_eraseIdx→u!,getElem?_map→w!,map_set→z!
open Nat renaming ble_eq_true_of_le→c!,le_refl→h!,ble→n!,zero_add→o!,zero_le→p!,mul_le_mul_left→v!,le_of_lt→A!,mul_one→C!,le_succ→D!
open Int renaming sub_zero→k!,tdiv_eq_ediv_of_nonneg→t!,natCast_zero→x!,natCast_one→y!,zero_add→B!
open Go.Vm.V renaming int→Y,ptr→X,bool→K,str→H
open Go.IntKind renaming i64→U
open Go.Vm.Ob renaming cells→O
open Go.Vm.Wr renaming rw→N
open Go.Vm.R renaming ok→D
noncomputable section
open Go Go.Proofs Go.Vm Go.Im
namespace Go.Proofs.Im
open Go.Proofs.Tryz
def Oa(h:Hp){n:Nat}(hn:n<256):∃k:Int,FO [Y .u64 (n:Int)] h=D (Y U k) h/\(0<n->k≠0):=by
 have b:jk .u8 (Y .u64 (n:Int)) h=D (Y .u8 (n:Int)) h:=by
  show iH .u8 (xJ .u8 (n:Int)) h=_;rw[A7,wrap_u8 hn,gK]
 have key:∃k:Int,Ti [Y .u64 (n:Int)] h=D (Y U k) h/\(0<n->k≠0):=by
  rw[atf]
  suffices T:aX prog [.tmp 2] (λr g=>(∃k:Int,r=Y U k/\(0<n->k≠0))/\g=h) (abh (T.set (some (Y .u64 (n:Int))) (a! 0) T.nil) h) by
   obtain⟨r,g,e,⟨k,rfl,hk⟩,rfl⟩:=T;exact⟨k,e,hk⟩
  simp(disch:=omega)only[vvB,seval,abh,ajP,afV,afU,afT,adl,b];refine aJP (Q:=λo=>aX prog [.tmp 2] (λr g=>(∃k:Int,r=Y U k/\(0<n->k≠0))/\g=h) (lF o Out.ret)) (by simp only[List.length_cons,List.length_nil,Nat.blt_eq];omega) (by rfl) (by rfl) λa d c=>?_;simp(disch:=omega)only[vvB,seval];exact aX.ret (qT0) ⟨⟨(a:Int),by simp,λq=>by have:=c q;omega⟩,rfl⟩
 obtain⟨k,e,hk⟩:=key;refine⟨k,?_,hk⟩;rw[ayW];simp(disch:=omega)only[vvB,seval,aw3,ajP,anG,e];simp only[bU,bT,vvB,seval,bW]<;>rfl
def aac{h:Hp}{n:Int}(h0:0<=n)(a:n<1000000):jk .u64 (Y U n) h=D (Y .u64 n) h:=by
 show iH .u64 (xJ .u64 n) h=_;rw[A7,gK];congr 2;simp[IntKind.wrap,IntKind.signed,IntKind.bits];omega
def akh{α:Type}{P:Pos->Prop}{c:α->List V}{h:Hp}{v:V}{l:List α}(r:Rws P (flat c) 1 h v l)(x:l.length*8<=140737488355328):
  ∃r h',zf [v] h=D r h'/\Rws (λj=>h.next.nat<=j.nat) (flat c) 1 h' r l/\Nw h h'/\(l= []\/dD h.next.nat (λ_=>False) (flat c) 3 1 h' r l):=by
 obtain⟨b,a,y,s,kk,p⟩:=r;have m:l.length=0->l= []:=j!.1;rw[alF];show aX prog _ (λr h'=>Rws (λj=>h.next.nat<=j.nat) (flat c) 1 h' r l/\Nw h h'/\(l= []\/dD h.next.nat (λ_=>False) (flat c) 3 1 h' r l)) _;by_cases t:v=.aQ
 ·subst t;have hl:l= []:=by
   rcases s.is with⟨h0,_⟩|⟨i,o,cp,wr,all,e,_⟩
   ·exact m h0
   ·cases e
  subst hl;simp(disch:=omega)only[vvB,seval,Fb,Au,Ar,yN];exact aX.ret (qT0) ⟨Rws.aQ _ _ _ _,Nw.refl _,.inl (by trivial)⟩
 ·have n:∀g,aJ .eql .slice v .aQ g=D (K false) g:=λg=>by
   rcases s.is with⟨_,h0|h0⟩|⟨i,o,cp,wr,all,h0,_⟩
   ·exact absurd h0 t
   ·rw[h0];rfl
   ·rw[h0];rfl
  have f:Nw h (h.new (O (N 3 true) [])):=Nw.new _ _;have w:Sl h.next.nat (h.new (O (N 3 true) [])) 1 v l.length b.flatten:=s.ch f (h! _) λ_ _ q=>q;by_cases hl:l= []
  ·subst hl;cases a;have k:bZ 3 1 8 (.slice h.next 0 0 (.kn 0)) v (h.new (O (N 3 true) []))=D (.slice h.next 0 0 (.kn 0)) (h.new (O (N 3 true) [])):=UC w;simp(disch:=omega)only[vvB,seval,Fb,Au,Ar,Ju,n,sS,k];exact aX.ret (qT0) ⟨Rws.zero (h! _),f,.inl (by trivial)⟩
  ·have d:0<l.length:=l!.2 hl;have k:bZ 3 1 8 (.slice h.next 0 0 (.kn 0)) v (h.new (O (N 3 true) []))=_:=IB w d (p:=h.next) (wr:=N 3 true) (cs0:= []) (by rw[dU];rfl) x;simp(disch:=omega)only[vvB,seval,Fb,Au,Ar,Ju,n,sS,k];have u:dD h.next.nat (λ_=>False) (flat c) 3 1 ((h.new (O (N 3 true) [])).new (O (N 3 false) b.flatten)) (.slice (h.new (O (N 3 true) [])).next 0 l.length (.un 1)) l:=
    ⟨b,a,y,s.len,.inr ⟨_,rfl,by have:=bG h (O (N 3 true) []);omega,by have:=bG (h.new (O (N 3 true) [])) (O (N 3 false) b.flatten);omega,false,dU _ _⟩⟩
   exact aX.ret (qT0) ⟨u.rows (aN _) (λ_ _ q=>q.elim) λ_ q _=>q,f.trans (Nw.new _ _),.inr u⟩
def ay6{α:Type}{P:Pos->Prop}{c:α->List V}{h:Hp}{v:V}{l:List α}(r:Rws P (flat c) 6 h v l)(x:l.length*56<=140737488355328):
  ∃r h',Fh [v] h=D r h'/\Rws (λj=>h.next.nat<=j.nat) (flat c) 6 h' r l/\Nw h h'/\(l= []\/dD h.next.nat (λ_=>False) (flat c) 55 6 h' r l):=by
 obtain⟨b,a,y,s,kk,p⟩:=r;have m:l.length=0->l= []:=j!.1;rw[alG];show aX prog _ (λr h'=>Rws (λj=>h.next.nat<=j.nat) (flat c) 6 h' r l/\Nw h h'/\(l= []\/dD h.next.nat (λ_=>False) (flat c) 55 6 h' r l)) _;by_cases t:v=.aQ
 ·subst t;have hl:l= []:=by
   rcases s.is with⟨h0,_⟩|⟨i,o,cp,wr,all,e,_⟩
   ·exact m h0
   ·cases e
  subst hl;simp(disch:=omega)only[vvB,seval,Fe,Au,Ar,yN];exact aX.ret (qT0) ⟨Rws.aQ _ _ _ _,Nw.refl _,.inl (by trivial)⟩
 ·have n:∀g,aJ .eql .slice v .aQ g=D (K false) g:=λg=>by
   rcases s.is with⟨_,h0|h0⟩|⟨i,o,cp,wr,all,h0,_⟩
   ·exact absurd h0 t
   ·rw[h0];rfl
   ·rw[h0];rfl
  have f:Nw h (h.new (O (N 55 true) [])):=Nw.new _ _;have w:Sl h.next.nat (h.new (O (N 55 true) [])) 6 v l.length b.flatten:=s.ch f (h! _) λ_ _ q=>q;by_cases hl:l= []
  ·subst hl;cases a;have k:bZ 55 6 56 (.slice h.next 0 0 (.kn 0)) v (h.new (O (N 55 true) []))=D (.slice h.next 0 0 (.kn 0)) (h.new (O (N 55 true) [])):=UC w;simp(disch:=omega)only[vvB,seval,Fe,Au,Ar,Jv,n,sS,k];exact aX.ret (qT0) ⟨Rws.zero (h! _),f,.inl (by trivial)⟩
  ·have d:0<l.length:=l!.2 hl;have k:bZ 55 6 56 (.slice h.next 0 0 (.kn 0)) v (h.new (O (N 55 true) []))=_:=IB w d (p:=h.next) (wr:=N 55 true) (cs0:= []) (by rw[dU];rfl) x;simp(disch:=omega)only[vvB,seval,Fe,Au,Ar,Jv,n,sS,k];have u:dD h.next.nat (λ_=>False) (flat c) 55 6 ((h.new (O (N 55 true) [])).new (O (N 55 false) b.flatten)) (.slice (h.new (O (N 55 true) [])).next 0 l.length (.un 6)) l:=
    ⟨b,a,y,s.len,.inr ⟨_,rfl,by have:=bG h (O (N 55 true) []);omega,by have:=bG (h.new (O (N 55 true) [])) (O (N 55 false) b.flatten);omega,false,dU _ _⟩⟩
   exact aX.ret (qT0) ⟨u.rows (aN _) (λ_ _ q=>q.elim) λ_ q _=>q,f.trans (Nw.new _ _),.inr u⟩
def aqT{α:Type}{P:Pos->Prop}{c:α->List V}{h:Hp}{v:V}{l:List α}(r:Rws P (flat c) 2 h v l)(x:l.length*16<=140737488355328):
  ∃r h',yI [v] h=D r h'/\Rws (λj=>h.next.nat<=j.nat) (flat c) 2 h' r l/\Nw h h'/\(l= []\/dD h.next.nat (λ_=>False) (flat c) 106 2 h' r l):=by
 obtain⟨b,a,y,s,kk,p⟩:=r;have m:l.length=0->l= []:=j!.1;rw[aef];show aX prog _ (λr h'=>Rws (λj=>h.next.nat<=j.nat) (flat c) 2 h' r l/\Nw h h'/\(l= []\/dD h.next.nat (λ_=>False) (flat c) 106 2 h' r l)) _;by_cases t:v=.aQ
 ·subst t;have hl:l= []:=by
   rcases s.is with⟨h0,_⟩|⟨i,o,cp,wr,all,e,_⟩
   ·exact m h0
   ·cases e
  subst hl;simp(disch:=omega)only[vvB,seval,yC,Au,Ar,yN];exact aX.ret (qT0) ⟨Rws.aQ _ _ _ _,Nw.refl _,.inl (by trivial)⟩
 ·have n:∀g,aJ .eql .slice v .aQ g=D (K false) g:=λg=>by
   rcases s.is with⟨_,h0|h0⟩|⟨i,o,cp,wr,all,h0,_⟩
   ·exact absurd h0 t
   ·rw[h0];rfl
   ·rw[h0];rfl
  have f:Nw h (h.new (O (N 106 true) [])):=Nw.new _ _;have w:Sl h.next.nat (h.new (O (N 106 true) [])) 2 v l.length b.flatten:=s.ch f (h! _) λ_ _ q=>q;by_cases hl:l= []
  ·subst hl;cases a;have k:bZ 106 2 16 (.slice h.next 0 0 (.kn 0)) v (h.new (O (N 106 true) []))=D (.slice h.next 0 0 (.kn 0)) (h.new (O (N 106 true) [])):=UC w;simp(disch:=omega)only[vvB,seval,yC,Au,Ar,BQ,n,sS,k];exact aX.ret (qT0) ⟨Rws.zero (h! _),f,.inl (by trivial)⟩
  ·have d:0<l.length:=l!.2 hl;have k:bZ 106 2 16 (.slice h.next 0 0 (.kn 0)) v (h.new (O (N 106 true) []))=_:=IB w d (p:=h.next) (wr:=N 106 true) (cs0:= []) (by rw[dU];rfl) x;simp(disch:=omega)only[vvB,seval,yC,Au,Ar,BQ,n,sS,k];have u:dD h.next.nat (λ_=>False) (flat c) 106 2 ((h.new (O (N 106 true) [])).new (O (N 106 false) b.flatten)) (.slice (h.new (O (N 106 true) [])).next 0 l.length (.un 2)) l:=
    ⟨b,a,y,s.len,.inr ⟨_,rfl,by have:=bG h (O (N 106 true) []);omega,by have:=bG (h.new (O (N 106 true) [])) (O (N 106 false) b.flatten);omega,false,dU _ _⟩⟩
   exact aX.ret (qT0) ⟨u.rows (aN _) (λ_ _ q=>q.elim) λ_ q _=>q,f.trans (Nw.new _ _),.inr u⟩
def ZH{α:Type}{P:Pos->Prop}{c:α->List V}{h:Hp}{v:V}{l:List α}(r:Rws P (flat c) 1 h v l)(x:l.length*16<=140737488355328):
  ∃r h',rq [v] h=D r h'/\Rws (λj=>h.next.nat<=j.nat) (flat c) 1 h' r l/\Nw h h'/\(l= []\/dD h.next.nat (λ_=>False) (flat c) 9 1 h' r l):=by
 obtain⟨b,a,y,s,kk,p⟩:=r;have m:l.length=0->l= []:=j!.1;rw[aee];show aX prog _ (λr h'=>Rws (λj=>h.next.nat<=j.nat) (flat c) 1 h' r l/\Nw h h'/\(l= []\/dD h.next.nat (λ_=>False) (flat c) 9 1 h' r l)) _;by_cases t:v=.aQ
 ·subst t;have hl:l= []:=by
   rcases s.is with⟨h0,_⟩|⟨i,o,cp,wr,all,e,_⟩
   ·exact m h0
   ·cases e
  subst hl;simp(disch:=omega)only[vvB,seval,yB,Au,Ar,yN];exact aX.ret (qT0) ⟨Rws.aQ _ _ _ _,Nw.refl _,.inl (by trivial)⟩
 ·have n:∀g,aJ .eql .slice v .aQ g=D (K false) g:=λg=>by
   rcases s.is with⟨_,h0|h0⟩|⟨i,o,cp,wr,all,h0,_⟩
   ·exact absurd h0 t
   ·rw[h0];rfl
   ·rw[h0];rfl
  have f:Nw h (h.new (O (N 9 true) [])):=Nw.new _ _;have w:Sl h.next.nat (h.new (O (N 9 true) [])) 1 v l.length b.flatten:=s.ch f (h! _) λ_ _ q=>q;by_cases hl:l= []
  ·subst hl;cases a;have k:bZ 9 1 16 (.slice h.next 0 0 (.kn 0)) v (h.new (O (N 9 true) []))=D (.slice h.next 0 0 (.kn 0)) (h.new (O (N 9 true) [])):=UC w;simp(disch:=omega)only[vvB,seval,yB,Au,Ar,BP,n,sS,k];exact aX.ret (qT0) ⟨Rws.zero (h! _),f,.inl (by trivial)⟩
  ·have d:0<l.length:=l!.2 hl;have k:bZ 9 1 16 (.slice h.next 0 0 (.kn 0)) v (h.new (O (N 9 true) []))=_:=IB w d (p:=h.next) (wr:=N 9 true) (cs0:= []) (by rw[dU];rfl) x;simp(disch:=omega)only[vvB,seval,yB,Au,Ar,BP,n,sS,k];have u:dD h.next.nat (λ_=>False) (flat c) 9 1 ((h.new (O (N 9 true) [])).new (O (N 9 false) b.flatten)) (.slice (h.new (O (N 9 true) [])).next 0 l.length (.un 1)) l:=
    ⟨b,a,y,s.len,.inr ⟨_,rfl,by have:=bG h (O (N 9 true) []);omega,by have:=bG (h.new (O (N 9 true) [])) (O (N 9 false) b.flatten);omega,false,dU _ _⟩⟩
   exact aX.ret (qT0) ⟨u.rows (aN _) (λ_ _ q=>q.elim) λ_ q _=>q,f.trans (Nw.new _ _),.inr u⟩
def atq{α:Type}{P:Pos->Prop}{c:α->List V}{h:Hp}{v:V}{l:List α}(r:Rws P (flat c) 2 h v l)(x:l.length*16<=140737488355328):
  ∃r h',AU [v] h=D r h'/\Rws (λj=>h.next.nat<=j.nat) (flat c) 2 h' r l/\Nw h h'/\(l= []\/dD h.next.nat (λ_=>False) (flat c) 98 2 h' r l):=by
 obtain⟨b,a,y,s,kk,p⟩:=r;have m:l.length=0->l= []:=j!.1;rw[agU];show aX prog _ (λr h'=>Rws (λj=>h.next.nat<=j.nat) (flat c) 2 h' r l/\Nw h h'/\(l= []\/dD h.next.nat (λ_=>False) (flat c) 98 2 h' r l)) _;by_cases t:v=.aQ
 ·subst t;have hl:l= []:=by
   rcases s.is with⟨h0,_⟩|⟨i,o,cp,wr,all,e,_⟩
   ·exact m h0
   ·cases e
  subst hl;simp(disch:=omega)only[vvB,seval,AP,Au,Ar,yN];exact aX.ret (qT0) ⟨Rws.aQ _ _ _ _,Nw.refl _,.inl (by trivial)⟩
 ·have n:∀g,aJ .eql .slice v .aQ g=D (K false) g:=λg=>by
   rcases s.is with⟨_,h0|h0⟩|⟨i,o,cp,wr,all,h0,_⟩
   ·exact absurd h0 t
   ·rw[h0];rfl
   ·rw[h0];rfl
  have f:Nw h (h.new (O (N 98 true) [])):=Nw.new _ _;have w:Sl h.next.nat (h.new (O (N 98 true) [])) 2 v l.length b.flatten:=s.ch f (h! _) λ_ _ q=>q;by_cases hl:l= []
  ·subst hl;cases a;have k:bZ 98 2 16 (.slice h.next 0 0 (.kn 0)) v (h.new (O (N 98 true) []))=D (.slice h.next 0 0 (.kn 0)) (h.new (O (N 98 true) [])):=UC w;simp(disch:=omega)only[vvB,seval,AP,Au,Ar,DU,n,sS,k];exact aX.ret (qT0) ⟨Rws.zero (h! _),f,.inl (by trivial)⟩
  ·have d:0<l.length:=l!.2 hl;have k:bZ 98 2 16 (.slice h.next 0 0 (.kn 0)) v (h.new (O (N 98 true) []))=_:=IB w d (p:=h.next) (wr:=N 98 true) (cs0:= []) (by rw[dU];rfl) x;simp(disch:=omega)only[vvB,seval,AP,Au,Ar,DU,n,sS,k];have u:dD h.next.nat (λ_=>False) (flat c) 98 2 ((h.new (O (N 98 true) [])).new (O (N 98 false) b.flatten)) (.slice (h.new (O (N 98 true) [])).next 0 l.length (.un 2)) l:=
    ⟨b,a,y,s.len,.inr ⟨_,rfl,by have:=bG h (O (N 98 true) []);omega,by have:=bG (h.new (O (N 98 true) [])) (O (N 98 false) b.flatten);omega,false,dU _ _⟩⟩
   exact aX.ret (qT0) ⟨u.rows (aN _) (λ_ _ q=>q.elim) λ_ q _=>q,f.trans (Nw.new _ _),.inr u⟩
def zS{α:Type}{P:Pos->Prop}{E:El α}{h:Hp}{v f:V}{l:List α}(r:Rws P E 6 h v l)(M:E.Stable)(p:α->Bool)(hn:l.length<=1000000000)
  (S:∀a cs g,a∈l->Nw h g->E P g a cs->cs.length=6->∃o,dn kC f [.agg (V.ofList cs)] g=D (K (p a)) o/\Nw g o):
  ∃h',kD [v,f] h=D (Y U (gB (l.findIdx? p))) h'/\Nw h h':=by
 rw[abH]
 suffices T:aX prog [.tmp 4] (λr h'=>r=Y U (gB (l.findIdx? p))/\Nw h h') (DY (T.set (some f) (a! 1) (T.set (some v) (a! 0) T.nil)) h) by
  obtain⟨r,h',e,rfl,c⟩:=T;exact⟨h',e,c⟩
 simp(disch:=omega)only[vvB,seval,DY,awX,KX,r.len,Lu];refine Oc.then (dO (σ:=Unit) (n:=l.length) (pi:=8) (pn:=7) (pc:=9) [0,1] (λ_=> [v,f]) (λk _ g=>Nw h g/\(l.take k).findIdx? p=none)
  (A:=λfr g=>Nw h g/\l.findIdx? p=none) (B:=λfr g=>fr.get (a! 4)=some (Y U (gB (l.findIdx? p)))/\Nw h g) (s:=())
  (λfr h _ k e1 e2=>by simp only[vvB,seval,KW,e1,e2]) (λfr h k _ e1=>by simp(disch:=omega)only[vvB,seval,KQ,e1]) (by decide) (by rw[dP];omega) (qK0) (qK0) (by simp only[Fa,vvB,seval,and_self]) ⟨Nw.refl _,by simp⟩ ?_ ?_) ?_ ?_
 ·intro k _ fr g hk m L z t;obtain⟨y,f1,-⟩:=z;obtain⟨c,b⟩:=t;obtain⟨x,j⟩:∃x,l[k]?=some x:=⟨_,b! hk⟩
  obtain⟨i,q,cs,e1,ex,Q,hi,-,-,C⟩:=(r.nw M c).elt j;obtain⟨o,G,w⟩:=S x cs g (d! j) c ex Q;have I:=C g rfl;simp(disch:=omega)only[vvB,seval,KU,KT,y,f1,m,e1,I,G];by_cases u:p x=true
  ·simp only[vvB,seval,u,KR,m];refine⟨?_,c.trans w⟩;simp only[vvB,seval];rw[lK j b u];rfl
  ·have d:p x=false:=by simpa using u
   simp only[vvB,seval,d];refine⟨qK2 m,qK2 L,(),by simp only[Fa,vvB,seval,y,f1,and_self],c.trans w,?_⟩;rw[g!,j];simp[e!,b,d]
 ·intro _ fr g z t;obtain⟨c,b⟩:=t;rw[i!]at b;exact⟨c,b⟩
 ·rintro fr g ⟨c,b⟩;simp only[vvB,seval,KP];exact aX.ret (qT0) ⟨by rw[b];rfl,c⟩
 ·rintro fr g ⟨J,c⟩;exact aX.ret (qT1 J) ⟨rfl,c⟩
def am1{α:Type}{P:Pos->Prop}{E:El α}{h:Hp}{v f:V}{l:List α}(r:Rws P E 1 h v l)(Q:E.Stable)(p:α->Bool)(hn:l.length<=1000000000)
  (W:∀a x g,a∈l->Nw h g->E P g a [x]->∃o,dn ql f [x] g=D (K (p a)) o/\Nw g o):
  ∃h',vZ [v,f] h=D (Y U (gB (l.findIdx? p))) h'/\Nw h h':=by
 rw[abG]
 suffices T:aX prog [.tmp 4] (λr h'=>r=Y U (gB (l.findIdx? p))/\Nw h h') (DX (T.set (some f) (a! 1) (T.set (some v) (a! 0) T.nil)) h) by
  obtain⟨r,h',e,rfl,c⟩:=T;exact⟨h',e,c⟩
 simp(disch:=omega)only[vvB,seval,DX,awX,KX,r.len,Ls];refine Oc.then (dO (σ:=Unit) (n:=l.length) (pi:=8) (pn:=7) (pc:=9) [0,1] (λ_=> [v,f]) (λk _ g=>Nw h g/\(l.take k).findIdx? p=none)
  (A:=λfr g=>Nw h g/\l.findIdx? p=none) (B:=λfr g=>fr.get (a! 4)=some (Y U (gB (l.findIdx? p)))/\Nw h g) (s:=())
  (λfr h _ k e1 e2=>by simp only[vvB,seval,KW,e1,e2]) (λfr h k _ e1=>by simp(disch:=omega)only[vvB,seval,KQ,e1]) (by decide) (by rw[dP];omega) (qK0) (qK0) (by simp only[Fa,vvB,seval,and_self]) ⟨Nw.refl _,by simp⟩ ?_ ?_) ?_ ?_
 ·intro k _ fr g hk m M C t;obtain⟨z,f1,-⟩:=C;obtain⟨c,b⟩:=t;obtain⟨x,j⟩:∃x,l[k]?=some x:=⟨_,b! hk⟩
  obtain⟨i,q,cs,e1,ex,S,hi,-,G,-⟩:=(r.nw Q c).elt j;obtain⟨y,rfl⟩:=apn S;obtain⟨o,I,w⟩:=W x y g (d! j) c ex;have J:aG (X i q) g=D y g:=G g rfl 0 y rfl;simp(disch:=omega)only[vvB,seval,KU,KI,z,f1,m,e1,J,I];by_cases u:p x=true
  ·simp only[vvB,seval,u,KR,m];refine⟨?_,c.trans w⟩;simp only[vvB,seval];rw[lK j b u];rfl
  ·have d:p x=false:=by simpa using u
   simp only[vvB,seval,d];refine⟨qK2 m,qK2 M,(),by simp only[Fa,vvB,seval,z,f1,and_self],c.trans w,?_⟩;rw[g!,j];simp[e!,b,d]
 ·intro _ fr g C t;obtain⟨c,b⟩:=t;rw[i!]at b;exact⟨c,b⟩
 ·rintro fr g ⟨c,b⟩;simp only[vvB,seval,KP];exact aX.ret (qT0) ⟨by rw[b];rfl,c⟩
 ·rintro fr g ⟨L,c⟩;exact aX.ret (qT1 L) ⟨rfl,c⟩
def FH{α:Type}{P:Pos->Prop}{E:El α}{h:Hp}{v f:V}{l:List α}(r:Rws P E 8 h v l)(M:E.Stable)(p:α->Bool)(hn:l.length<=1000000000)
  (S:∀a cs g,a∈l->Nw h g->E P g a cs->cs.length=8->∃o,dn kV f [.agg (V.ofList cs)] g=D (K (p a)) o/\Nw g o):
  ∃h',kW [v,f] h=D (Y U (gB (l.findIdx? p))) h'/\Nw h h':=by
 rw[Zy]
 suffices T:aX prog [.tmp 4] (λr h'=>r=Y U (gB (l.findIdx? p))/\Nw h h') (BX (T.set (some f) (a! 1) (T.set (some v) (a! 0) T.nil)) h) by
  obtain⟨r,h',e,rfl,c⟩:=T;exact⟨h',e,c⟩
 simp(disch:=omega)only[vvB,seval,BX,awX,KX,r.len,JU];refine Oc.then (dO (σ:=Unit) (n:=l.length) (pi:=8) (pn:=7) (pc:=9) [0,1] (λ_=> [v,f]) (λk _ g=>Nw h g/\(l.take k).findIdx? p=none)
  (A:=λfr g=>Nw h g/\l.findIdx? p=none) (B:=λfr g=>fr.get (a! 4)=some (Y U (gB (l.findIdx? p)))/\Nw h g) (s:=())
  (λfr h _ k e1 e2=>by simp only[vvB,seval,KW,e1,e2]) (λfr h k _ e1=>by simp(disch:=omega)only[vvB,seval,KQ,e1]) (by decide) (by rw[dP];omega) (qK0) (qK0) (by simp only[Fa,vvB,seval,and_self]) ⟨Nw.refl _,by simp⟩ ?_ ?_) ?_ ?_
 ·intro k _ fr g hk m L z t;obtain⟨y,f1,-⟩:=z;obtain⟨c,b⟩:=t;obtain⟨x,j⟩:∃x,l[k]?=some x:=⟨_,b! hk⟩
  obtain⟨i,q,cs,e1,ex,Q,hi,-,-,C⟩:=(r.nw M c).elt j;obtain⟨o,G,w⟩:=S x cs g (d! j) c ex Q;have I:=C g rfl;simp(disch:=omega)only[vvB,seval,KU,Je,y,f1,m,e1,I,G];by_cases u:p x=true
  ·simp only[vvB,seval,u,KR,m];refine⟨?_,c.trans w⟩;simp only[vvB,seval];rw[lK j b u];rfl
  ·have d:p x=false:=by simpa using u
   simp only[vvB,seval,d];refine⟨qK2 m,qK2 L,(),by simp only[Fa,vvB,seval,y,f1,and_self],c.trans w,?_⟩;rw[g!,j];simp[e!,b,d]
 ·intro _ fr g z t;obtain⟨c,b⟩:=t;rw[i!]at b;exact⟨c,b⟩
 ·rintro fr g ⟨c,b⟩;simp only[vvB,seval,KP];exact aX.ret (qT0) ⟨by rw[b];rfl,c⟩
 ·rintro fr g ⟨J,c⟩;exact aX.ret (qT1 J) ⟨rfl,c⟩
def afh{α:Type}{P:Pos->Prop}{E:El α}{h:Hp}{v f:V}{l:List α}(r:Rws P E 1 h v l)(Q:E.Stable)(p:α->Bool)(hn:l.length<=1000000000)
  (W:∀a x g,a∈l->Nw h g->E P g a [x]->∃o,dn qx f [x] g=D (K (p a)) o/\Nw g o):
  ∃h',qA [v,f] h=D (Y U (gB (l.findIdx? p))) h'/\Nw h h':=by
 rw[VW]
 suffices T:aX prog [.tmp 4] (λr h'=>r=Y U (gB (l.findIdx? p))/\Nw h h') (yx (T.set (some f) (a! 1) (T.set (some v) (a! 0) T.nil)) h) by
  obtain⟨r,h',e,rfl,c⟩:=T;exact⟨h',e,c⟩
 simp(disch:=omega)only[vvB,seval,yx,awX,KX,r.len,EL];refine Oc.then (dO (σ:=Unit) (n:=l.length) (pi:=8) (pn:=7) (pc:=9) [0,1] (λ_=> [v,f]) (λk _ g=>Nw h g/\(l.take k).findIdx? p=none)
  (A:=λfr g=>Nw h g/\l.findIdx? p=none) (B:=λfr g=>fr.get (a! 4)=some (Y U (gB (l.findIdx? p)))/\Nw h g) (s:=())
  (λfr h _ k e1 e2=>by simp only[vvB,seval,KW,e1,e2]) (λfr h k _ e1=>by simp(disch:=omega)only[vvB,seval,KQ,e1]) (by decide) (by rw[dP];omega) (qK0) (qK0) (by simp only[Fa,vvB,seval,and_self]) ⟨Nw.refl _,by simp⟩ ?_ ?_) ?_ ?_
 ·intro k _ fr g hk m M C t;obtain⟨z,f1,-⟩:=C;obtain⟨c,b⟩:=t;obtain⟨x,j⟩:∃x,l[k]?=some x:=⟨_,b! hk⟩
  obtain⟨i,q,cs,e1,ex,S,hi,-,G,-⟩:=(r.nw Q c).elt j;obtain⟨y,rfl⟩:=apn S;obtain⟨o,I,w⟩:=W x y g (d! j) c ex;have J:aG (X i q) g=D y g:=G g rfl 0 y rfl;simp(disch:=omega)only[vvB,seval,KU,Ef,z,f1,m,e1,J,I];by_cases u:p x=true
  ·simp only[vvB,seval,u,KR,m];refine⟨?_,c.trans w⟩;simp only[vvB,seval];rw[lK j b u];rfl
  ·have d:p x=false:=by simpa using u
   simp only[vvB,seval,d];refine⟨qK2 m,qK2 M,(),by simp only[Fa,vvB,seval,z,f1,and_self],c.trans w,?_⟩;rw[g!,j];simp[e!,b,d]
 ·intro _ fr g C t;obtain⟨c,b⟩:=t;rw[i!]at b;exact⟨c,b⟩
 ·rintro fr g ⟨c,b⟩;simp only[vvB,seval,KP];exact aX.ret (qT0) ⟨by rw[b];rfl,c⟩
 ·rintro fr g ⟨L,c⟩;exact aX.ret (qT1 L) ⟨rfl,c⟩
def ahU{α:Type}{P:Pos->Prop}{E:El α}{h:Hp}{v f:V}{l:List α}(r:Rws P E 2 h v l)(M:E.Stable)(p:α->Bool)(hn:l.length<=1000000000)
  (S:∀a cs g,a∈l->Nw h g->E P g a cs->cs.length=2->∃o,dn rJ f [.agg (V.ofList cs)] g=D (K (p a)) o/\Nw g o):
  ∃h',rQ [v,f] h=D (Y U (gB (l.findIdx? p))) h'/\Nw h h':=by
 rw[XK]
 suffices T:aX prog [.tmp 4] (λr h'=>r=Y U (gB (l.findIdx? p))/\Nw h h') (zJ (T.set (some f) (a! 1) (T.set (some v) (a! 0) T.nil)) h) by
  obtain⟨r,h',e,rfl,c⟩:=T;exact⟨h',e,c⟩
 simp(disch:=omega)only[vvB,seval,zJ,awX,KX,r.len,Hu];refine Oc.then (dO (σ:=Unit) (n:=l.length) (pi:=8) (pn:=7) (pc:=9) [0,1] (λ_=> [v,f]) (λk _ g=>Nw h g/\(l.take k).findIdx? p=none)
  (A:=λfr g=>Nw h g/\l.findIdx? p=none) (B:=λfr g=>fr.get (a! 4)=some (Y U (gB (l.findIdx? p)))/\Nw h g) (s:=())
  (λfr h _ k e1 e2=>by simp only[vvB,seval,KW,e1,e2]) (λfr h k _ e1=>by simp(disch:=omega)only[vvB,seval,KQ,e1]) (by decide) (by rw[dP];omega) (qK0) (qK0) (by simp only[Fa,vvB,seval,and_self]) ⟨Nw.refl _,by simp⟩ ?_ ?_) ?_ ?_
 ·intro k _ fr g hk m L z t;obtain⟨y,f1,-⟩:=z;obtain⟨c,b⟩:=t;obtain⟨x,j⟩:∃x,l[k]?=some x:=⟨_,b! hk⟩
  obtain⟨i,q,cs,e1,ex,Q,hi,-,-,C⟩:=(r.nw M c).elt j;obtain⟨o,G,w⟩:=S x cs g (d! j) c ex Q;have I:=C g rfl;simp(disch:=omega)only[vvB,seval,KU,Gu,y,f1,m,e1,I,G];by_cases u:p x=true
  ·simp only[vvB,seval,u,KR,m];refine⟨?_,c.trans w⟩;simp only[vvB,seval];rw[lK j b u];rfl
  ·have d:p x=false:=by simpa using u
   simp only[vvB,seval,d];refine⟨qK2 m,qK2 L,(),by simp only[Fa,vvB,seval,y,f1,and_self],c.trans w,?_⟩;rw[g!,j];simp[e!,b,d]
 ·intro _ fr g z t;obtain⟨c,b⟩:=t;rw[i!]at b;exact⟨c,b⟩
 ·rintro fr g ⟨c,b⟩;simp only[vvB,seval,KP];exact aX.ret (qT0) ⟨by rw[b];rfl,c⟩
 ·rintro fr g ⟨J,c⟩;exact aX.ret (qT1 J) ⟨rfl,c⟩
def ahT{α:Type}{P:Pos->Prop}{E:El α}{h:Hp}{v f:V}{l:List α}(r:Rws P E 9 h v l)(M:E.Stable)(p:α->Bool)(hn:l.length<=1000000000)
  (S:∀a cs g,a∈l->Nw h g->E P g a cs->cs.length=9->∃o,dn zH f [.agg (V.ofList cs)] g=D (K (p a)) o/\Nw g o):
  ∃h',oh [v,f] h=D (Y U (gB (l.findIdx? p))) h'/\Nw h h':=by
 rw[XJ]
 suffices T:aX prog [.tmp 4] (λr h'=>r=Y U (gB (l.findIdx? p))/\Nw h h') (zI (T.set (some f) (a! 1) (T.set (some v) (a! 0) T.nil)) h) by
  obtain⟨r,h',e,rfl,c⟩:=T;exact⟨h',e,c⟩
 simp(disch:=omega)only[vvB,seval,zI,awX,KX,r.len,Ht];refine Oc.then (dO (σ:=Unit) (n:=l.length) (pi:=8) (pn:=7) (pc:=9) [0,1] (λ_=> [v,f]) (λk _ g=>Nw h g/\(l.take k).findIdx? p=none)
  (A:=λfr g=>Nw h g/\l.findIdx? p=none) (B:=λfr g=>fr.get (a! 4)=some (Y U (gB (l.findIdx? p)))/\Nw h g) (s:=())
  (λfr h _ k e1 e2=>by simp only[vvB,seval,KW,e1,e2]) (λfr h k _ e1=>by simp(disch:=omega)only[vvB,seval,KQ,e1]) (by decide) (by rw[dP];omega) (qK0) (qK0) (by simp only[Fa,vvB,seval,and_self]) ⟨Nw.refl _,by simp⟩ ?_ ?_) ?_ ?_
 ·intro k _ fr g hk m L z t;obtain⟨y,f1,-⟩:=z;obtain⟨c,b⟩:=t;obtain⟨x,j⟩:∃x,l[k]?=some x:=⟨_,b! hk⟩
  obtain⟨i,q,cs,e1,ex,Q,hi,-,-,C⟩:=(r.nw M c).elt j;obtain⟨o,G,w⟩:=S x cs g (d! j) c ex Q;have I:=C g rfl;simp(disch:=omega)only[vvB,seval,KU,Gj,y,f1,m,e1,I,G];by_cases u:p x=true
  ·simp only[vvB,seval,u,KR,m];refine⟨?_,c.trans w⟩;simp only[vvB,seval];rw[lK j b u];rfl
  ·have d:p x=false:=by simpa using u
   simp only[vvB,seval,d];refine⟨qK2 m,qK2 L,(),by simp only[Fa,vvB,seval,y,f1,and_self],c.trans w,?_⟩;rw[g!,j];simp[e!,b,d]
 ·intro _ fr g z t;obtain⟨c,b⟩:=t;rw[i!]at b;exact⟨c,b⟩
 ·rintro fr g ⟨c,b⟩;simp only[vvB,seval,KP];exact aX.ret (qT0) ⟨by rw[b];rfl,c⟩
 ·rintro fr g ⟨J,c⟩;exact aX.ret (qT1 J) ⟨rfl,c⟩
def ahV{α:Type}{P:Pos->Prop}{E:El α}{h:Hp}{v f:V}{l:List α}(r:Rws P E 2 h v l)(M:E.Stable)(p:α->Bool)(hn:l.length<=1000000000)
  (S:∀a cs g,a∈l->Nw h g->E P g a cs->cs.length=2->∃o,dn rO f [.agg (V.ofList cs)] g=D (K (p a)) o/\Nw g o):
  ∃h',rU [v,f] h=D (Y U (gB (l.findIdx? p))) h'/\Nw h h':=by
 rw[XL]
 suffices T:aX prog [.tmp 4] (λr h'=>r=Y U (gB (l.findIdx? p))/\Nw h h') (zK (T.set (some f) (a! 1) (T.set (some v) (a! 0) T.nil)) h) by
  obtain⟨r,h',e,rfl,c⟩:=T;exact⟨h',e,c⟩
 simp(disch:=omega)only[vvB,seval,zK,awX,KX,r.len,Hw];refine Oc.then (dO (σ:=Unit) (n:=l.length) (pi:=8) (pn:=7) (pc:=9) [0,1] (λ_=> [v,f]) (λk _ g=>Nw h g/\(l.take k).findIdx? p=none)
  (A:=λfr g=>Nw h g/\l.findIdx? p=none) (B:=λfr g=>fr.get (a! 4)=some (Y U (gB (l.findIdx? p)))/\Nw h g) (s:=())
  (λfr h _ k e1 e2=>by simp only[vvB,seval,KW,e1,e2]) (λfr h k _ e1=>by simp(disch:=omega)only[vvB,seval,KQ,e1]) (by decide) (by rw[dP];omega) (qK0) (qK0) (by simp only[Fa,vvB,seval,and_self]) ⟨Nw.refl _,by simp⟩ ?_ ?_) ?_ ?_
 ·intro k _ fr g hk m L z t;obtain⟨y,f1,-⟩:=z;obtain⟨c,b⟩:=t;obtain⟨x,j⟩:∃x,l[k]?=some x:=⟨_,b! hk⟩
  obtain⟨i,q,cs,e1,ex,Q,hi,-,-,C⟩:=(r.nw M c).elt j;obtain⟨o,G,w⟩:=S x cs g (d! j) c ex Q;have I:=C g rfl;simp(disch:=omega)only[vvB,seval,KU,GK,y,f1,m,e1,I,G];by_cases u:p x=true
  ·simp only[vvB,seval,u,KR,m];refine⟨?_,c.trans w⟩;simp only[vvB,seval];rw[lK j b u];rfl
  ·have d:p x=false:=by simpa using u
   simp only[vvB,seval,d];refine⟨qK2 m,qK2 L,(),by simp only[Fa,vvB,seval,y,f1,and_self],c.trans w,?_⟩;rw[g!,j];simp[e!,b,d]
 ·intro _ fr g z t;obtain⟨c,b⟩:=t;rw[i!]at b;exact⟨c,b⟩
 ·rintro fr g ⟨c,b⟩;simp only[vvB,seval,KP];exact aX.ret (qT0) ⟨by rw[b];rfl,c⟩
 ·rintro fr g ⟨J,c⟩;exact aX.ret (qT1 J) ⟨rfl,c⟩
def afi{α:Type}{P:Pos->Prop}{E:El α}{h:Hp}{v f:V}{l:List α}(r:Rws P E 2 h v l)(M:E.Stable)(p:α->Bool)(hn:l.length<=1000000000)
  (S:∀a cs g,a∈l->Nw h g->E P g a cs->cs.length=2->∃o,dn yw f [.agg (V.ofList cs)] g=D (K (p a)) o/\Nw g o):
  ∃h',qB [v,f] h=D (Y U (gB (l.findIdx? p))) h'/\Nw h h':=by
 rw[VX]
 suffices T:aX prog [.tmp 4] (λr h'=>r=Y U (gB (l.findIdx? p))/\Nw h h') (yA (T.set (some f) (a! 1) (T.set (some v) (a! 0) T.nil)) h) by
  obtain⟨r,h',e,rfl,c⟩:=T;exact⟨h',e,c⟩
 simp(disch:=omega)only[vvB,seval,yA,awX,KX,r.len,EM];refine Oc.then (dO (σ:=Unit) (n:=l.length) (pi:=8) (pn:=7) (pc:=9) [0,1] (λ_=> [v,f]) (λk _ g=>Nw h g/\(l.take k).findIdx? p=none)
  (A:=λfr g=>Nw h g/\l.findIdx? p=none) (B:=λfr g=>fr.get (a! 4)=some (Y U (gB (l.findIdx? p)))/\Nw h g) (s:=())
  (λfr h _ k e1 e2=>by simp only[vvB,seval,KW,e1,e2]) (λfr h k _ e1=>by simp(disch:=omega)only[vvB,seval,KQ,e1]) (by decide) (by rw[dP];omega) (qK0) (qK0) (by simp only[Fa,vvB,seval,and_self]) ⟨Nw.refl _,by simp⟩ ?_ ?_) ?_ ?_
 ·intro k _ fr g hk m L z t;obtain⟨y,f1,-⟩:=z;obtain⟨c,b⟩:=t;obtain⟨x,j⟩:∃x,l[k]?=some x:=⟨_,b! hk⟩
  obtain⟨i,q,cs,e1,ex,Q,hi,-,-,C⟩:=(r.nw M c).elt j;obtain⟨o,G,w⟩:=S x cs g (d! j) c ex Q;have I:=C g rfl;simp(disch:=omega)only[vvB,seval,KU,Es,y,f1,m,e1,I,G];by_cases u:p x=true
  ·simp only[vvB,seval,u,KR,m];refine⟨?_,c.trans w⟩;simp only[vvB,seval];rw[lK j b u];rfl
  ·have d:p x=false:=by simpa using u
   simp only[vvB,seval,d];refine⟨qK2 m,qK2 L,(),by simp only[Fa,vvB,seval,y,f1,and_self],c.trans w,?_⟩;rw[g!,j];simp[e!,b,d]
 ·intro _ fr g z t;obtain⟨c,b⟩:=t;rw[i!]at b;exact⟨c,b⟩
 ·rintro fr g ⟨c,b⟩;simp only[vvB,seval,KP];exact aX.ret (qT0) ⟨by rw[b];rfl,c⟩
 ·rintro fr g ⟨J,c⟩;exact aX.ret (qT1 J) ⟨rfl,c⟩
def PO{α:Type}{P:Pos->Prop}{E:El α}{h:Hp}{v f:V}{l:List α}(r:Rws P E 1 h v l)(e:E.Stable)(p:α->Bool)(hn:l.length<=1000000000)
  (i:∀a x g,a∈l->Nw h g->E P g a [x]->∃b,dn ql f [x] g=D (K (p a)) b/\Nw g b):
  ∃h',jb [v,f] h=D (K (l.any p)) h'/\Nw h h':=by
 obtain⟨d,e1,c⟩:=am1 r e p hn i;rw[VZ];simp(disch:=omega)only[vvB,seval,JL,afk,ED,e1];exact⟨d,by simp only[bU,bT,vvB,seval,bW];rw[vC],c⟩
def agY{α:Type}{P:Pos->Prop}{E:El α}{h:Hp}{v f:V}{l:List α}(r:Rws P E 6 h v l)(e:E.Stable)(p:α->Bool)(hn:l.length<=1000000000)
  (i:∀a cs g,a∈l->Nw h g->E P g a cs->cs.length=6->∃b,dn kC f [.agg (V.ofList cs)] g=D (K (p a)) b/\Nw g b):
  ∃h',mD [v,f] h=D (K (l.any p)) h'/\Nw h h':=by
 obtain⟨d,e1,c⟩:=zS r e p hn i;rw[V5];simp(disch:=omega)only[vvB,seval,JM,afk,EG,e1];exact⟨d,by simp only[bU,bT,vvB,seval,bW];rw[vC],c⟩
def aeh{α:Type}{P:Pos->Prop}{E:El α}{h:Hp}{v f:V}{l:List α}(r:Rws P E 8 h v l)(e:E.Stable)(p:α->Bool)(hn:l.length<=1000000000)
  (i:∀a cs g,a∈l->Nw h g->E P g a cs->cs.length=8->∃b,dn kV f [.agg (V.ofList cs)] g=D (K (p a)) b/\Nw g b):
  ∃h',pG [v,f] h=D (K (l.any p)) h'/\Nw h h':=by
 obtain⟨d,e1,c⟩:=FH r e p hn i;rw[VJ];simp(disch:=omega)only[vvB,seval,Hr,afk,Dv,e1];exact⟨d,by simp only[bU,bT,vvB,seval,bW];rw[vC],c⟩
def ZF{α:Type}{P:Pos->Prop}{E:El α}{h:Hp}{v f:V}{l:List α}(r:Rws P E 1 h v l)(e:E.Stable)(p:α->Bool)(hn:l.length<=1000000000)
  (i:∀a x g,a∈l->Nw h g->E P g a [x]->∃b,dn qx f [x] g=D (K (p a)) b/\Nw g b):
  ∃h',nV [v,f] h=D (K (l.any p)) h'/\Nw h h':=by
 obtain⟨d,e1,c⟩:=afh r e p hn i;rw[Rh];simp(disch:=omega)only[vvB,seval,Dz,afk,Ak,e1];exact⟨d,by simp only[bU,bT,vvB,seval,bW];rw[vC],c⟩
def Kt{α:Type}{P:Pos->Prop}{E:El α}{h:Hp}{v f:V}{l:List α}(r:Rws P E 2 h v l)(e:E.Stable)(p:α->Bool)(hn:l.length<=1000000000)
  (i:∀a cs g,a∈l->Nw h g->E P g a cs->cs.length=2->∃b,dn rJ f [.agg (V.ofList cs)] g=D (K (p a)) b/\Nw g b):
  ∃h',kM [v,f] h=D (K (l.any p)) h'/\Nw h h':=by
 obtain⟨d,e1,c⟩:=ahU r e p hn i;rw[SY];simp(disch:=omega)only[vvB,seval,EI,afk,BL,e1];exact⟨d,by simp only[bU,bT,vvB,seval,bW];rw[vC],c⟩
def abQ{α:Type}{P:Pos->Prop}{E:El α}{h:Hp}{v f:V}{l:List α}(r:Rws P E 2 h v l)(e:E.Stable)(p:α->Bool)(hn:l.length<=1000000000)
  (i:∀a cs g,a∈l->Nw h g->E P g a cs->cs.length=2->∃b,dn rO f [.agg (V.ofList cs)] g=D (K (p a)) b/\Nw g b):
  ∃h',oK [v,f] h=D (K (l.any p)) h'/\Nw h h':=by
 obtain⟨d,e1,c⟩:=ahV r e p hn i;rw[Tc];simp(disch:=omega)only[vvB,seval,EJ,afk,BN,e1];exact⟨d,by simp only[bU,bT,vvB,seval,bW];rw[vC],c⟩
def ZG{α:Type}{P:Pos->Prop}{E:El α}{h:Hp}{v f:V}{l:List α}(r:Rws P E 2 h v l)(e:E.Stable)(p:α->Bool)(hn:l.length<=1000000000)
  (i:∀a cs g,a∈l->Nw h g->E P g a cs->cs.length=2->∃b,dn yw f [.agg (V.ofList cs)] g=D (K (p a)) b/\Nw g b):
  ∃h',nX [v,f] h=D (K (l.any p)) h'/\Nw h h':=by
 obtain⟨d,e1,c⟩:=afi r e p hn i;rw[Rj];simp(disch:=omega)only[vvB,seval,DC,afk,Ap,e1];exact⟨d,by simp only[bU,bT,vvB,seval,bW];rw[vC],c⟩
def atn{h:Hp}{f:Bool}{im:Pos}{a:List (List V)}{rest:List V}{i:Nat}(z:Kn h im (O (N 40 f) (a.flatten++rest)))(m:∀c∈a,c.length=8)(hi:i<a.length)(hn:a.length<=1000000):
  ∃h' b,AQ [.slice im 0 a.length (.un 8),Y U (i:Int),Y U ((i:Int)+1)] h=D (.slice im 0 (a.length - 1) (.un 8)) h'/\Kn h' im (O (N 40 f) ((a.eraseIdx i).flatten++b))/\Ch (λj=>j=im) h h':=by
 obtain⟨x,J,mid,E,a1,v,t,o⟩:=amC (bt:=104) z m (by omega) hi;have l:∀c∈a.eraseIdx i,c.length=8:=λc s=>m c (u! s);have e:(a.eraseIdx i).flatten.length=(a.length - 1)*8:=by rw[oD l,r! hi]
 obtain⟨y,r,u,s2,I,w,p⟩:=arC (zs:= [Y U 0,Y U 0,H [],Y U 0,.aQ,.aQ,Y U 0,Y U 0]) v e t rfl (by omega);have d:((a.length - 1:Nat):Int)+1=(a.length:Int):=by omega
 rw[d]at s2;have C:eP 8 (.slice im 0 a.length (.un 8)) (some (Y U (i:Int))) (some (Y U ((i:Int)+1))) (some (Y U (a.length:Int))) h=D (.slice im (moved 8 0 i a.length) (i+1 - i) (.kn (a.length - i))) h:=by
  show(match n! a.length a.length,n! (i+1) a.length,n! i (i+1) with
   |true,true,true=>eG (moved 8 0 i a.length) λq=>eG (i+1 - i) λn=>R.ok (V.slice im q n (.kn (a.length - i))) h
   |_,_,_=>.bad)=_
  rw[c! (h! _),c! (show i+1<=a.length from hi),c! (D! i)];simp only[dF]
 have G:eP 8 (.slice im 0 a.length (.un 8)) none (some (Y U (i:Int))) none h=D (.slice im 0 i (.un 8)) h:=by
  show(match n! i a.length,n! 0 i,Nat.beq 8 8 with
     |true,true,true=>R.ok (V.slice im 0 i (.un 8)) h
     |_,_,_=>R.bad)=_
  rw[c! (A! hi),c! (p! i)]
 have k:((i:Int)=(i:Int)+1)=False:=eq_false (by omega);have B:∀(n:Nat) (g:Hp),aZ 2 (.slice im 0 n (.un 8)) g=D (Y U (n:Int)) g:=λ_ _=>rfl;rw[agT];simp(disch:=omega)only[vvB,seval,WU,RD,Rz,Ry,Rx,Rw,Ro,Rn,B,C,k,G,E,a1,s2,I];exact⟨r,[Y U 0,Y U 0,H [],Y U 0,.aQ,.aQ,Y U 0,Y U 0]++rest,by simp only[bU,bT,vvB,seval,bW]<;>rfl,w,o.trans p λ_ _ q=>q⟩
def alK{h:Hp}{f:Bool}{im:Pos}{a:List (List V)}{rest:List V}{i:Nat}(z:Kn h im (O (N 248 f) (a.flatten++rest)))(m:∀c∈a,c.length=3)(hi:i<a.length)(hn:a.length<=1000000):
  ∃h' b,kX [.slice im 0 a.length (.un 3),Y U (i:Int),Y U ((i:Int)+1)] h=D (.slice im 0 (a.length - 1) (.un 3)) h'/\Kn h' im (O (N 248 f) ((a.eraseIdx i).flatten++b))/\Ch (λj=>j=im) h h':=by
 obtain⟨x,J,mid,E,a1,v,t,o⟩:=amC (bt:=24) z m (by omega) hi;have l:∀c∈a.eraseIdx i,c.length=3:=λc s=>m c (u! s);have e:(a.eraseIdx i).flatten.length=(a.length - 1)*3:=by rw[oD l,r! hi]
 obtain⟨y,r,u,s2,I,w,p⟩:=arC (zs:= [Y U 0,Y U 0,.cZ]) v e t rfl (by omega);have d:((a.length - 1:Nat):Int)+1=(a.length:Int):=by omega
 rw[d]at s2;have C:eP 3 (.slice im 0 a.length (.un 3)) (some (Y U (i:Int))) (some (Y U ((i:Int)+1))) (some (Y U (a.length:Int))) h=D (.slice im (moved 3 0 i a.length) (i+1 - i) (.kn (a.length - i))) h:=by
  show(match n! a.length a.length,n! (i+1) a.length,n! i (i+1) with
   |true,true,true=>eG (moved 3 0 i a.length) λq=>eG (i+1 - i) λn=>R.ok (V.slice im q n (.kn (a.length - i))) h
   |_,_,_=>.bad)=_
  rw[c! (h! _),c! (show i+1<=a.length from hi),c! (D! i)];simp only[dF]
 have G:eP 3 (.slice im 0 a.length (.un 3)) none (some (Y U (i:Int))) none h=D (.slice im 0 i (.un 3)) h:=by
  show(match n! i a.length,n! 0 i,Nat.beq 3 3 with
     |true,true,true=>R.ok (V.slice im 0 i (.un 3)) h
     |_,_,_=>R.bad)=_
  rw[c! (A! hi),c! (p! i)]
 have k:((i:Int)=(i:Int)+1)=False:=eq_false (by omega);have B:∀(n:Nat) (g:Hp),aZ 2 (.slice im 0 n (.un 3)) g=D (Y U (n:Int)) g:=λ_ _=>rfl;rw[Zz];simp(disch:=omega)only[vvB,seval,Pg,RD,Jp,Ry,Rx,Jl,Jk,Rn,B,C,k,G,E,a1,s2,I];exact⟨r,[Y U 0,Y U 0,.cZ]++rest,by simp only[bU,bT,vvB,seval,bW]<;>rfl,w,o.trans p λ_ _ q=>q⟩
def atp(x:Int)(h:Hp):nM [iV x] h=D (K false) h:=by
 rw[VO];simp only[vvB,seval,Q5,aiG,JI,decide_false,not_true];simp only[bU,bT,vvB,seval,bW]
def agZ(x y:Int)(h:Hp):Ko [iV x,iV y] h=D (K (ltI x y)) h:=by
 rw[aoL];simp only[vvB,seval,agE,afk,Zg,atp];simp only[bU,bT,vvB,seval,bW]<;>rfl
def ad6{h:Hp}{i:Pos}{f:Bool}{l:List Int}(W:Kn h i (O (N 3 f) (l.map iV)))(hn:l.length<=1000):
  ∃u h',gY [.slice i 0 l.length (.un 1),Y U 0,Y U (l.length:Int)] h=D u h'/\Kn h' i (O (N 3 f) ((iJ ltI l.length l).map iV))/\Ch (λj=>j=i) h h':=by
 rw[sJ]
 suffices T:aX prog [] (λu h'=>Kn h' i (O (N 3 f) ((iJ ltI l.length l).map iV))/\Ch (λj=>j=i) h h') (gX (T.set (some (Y U (l.length:Int))) (a! 2) (T.set (some (Y U 0)) (a! 1) (T.set (some (.slice i 0 l.length (.un 1))) (a! 0) T.nil))) h) by
  obtain⟨u,h',e,q⟩:=T;exact⟨u,h',e,q⟩
 by_cases hz:l.length=0
 ·simp(disch:=omega)only[vvB,seval,gX,jA];refine Oc.out (dW (n:=0) (λm fr g=>fr.get (a! 6)=some (Y U 1)/\fr.get (a! 2)=some (Y U (l.length:Int))/\g=h) (A:=λfr g=>g=h) (B:=λ_ _=>False) (by rw[dP];omega) ⟨qK1,qK0,rfl⟩ ?_) ?_ ?_
  ·rintro m fr g ⟨b,f2,rfl⟩;simp(disch:=omega)only[vvB,seval,iG,iF,b,f2];exact⟨rfl,rfl⟩
  ·rintro fr g rfl;refine aX.nor (qT0) ⟨?_,Ch.refl _ _⟩;rw[hz];exact W
  ·intro fr g q;exact q.elim
 have L:∀{g:Hp} {m:List Int} {j:Nat} {x:Int},Kn g i (O (N 3 f) (m.map iV))->m[j]?=some x->aG (X i j) g=D (iV x) g:=λk e=>k.ld (by rw[w!,e];rfl);have St:∀{g:Hp} {m:List Int} {j:Nat} (x:Int),Kn g i (O (N 3 f) (m.map iV))->j<m.length->aV 1 (X i j) (iV x) g=D V.undef (g.put i (some (O (N 3 f) ((m.set j x).map iV)))):=λ{g m j} x k e=>by
  rw[k.st ⟨rfl,rfl⟩ (by rw[q!];exact e),z!]
 have E:∀(g:Hp) (j:Nat),j<l.length->bD 1 (.slice i 0 l.length (.un 1)) (Y U (j:Int)) g=D (X i j) g:=λg j e=>by rw[zn e,o!,C!]
 simp(disch:=omega)only[vvB,seval,gX,jA];refine Oc.out (dW (n:=l.length - 1) (λm fr g=>∃k:Nat,1<=k/\k+m=l.length/\fr.get (a! 6)=some (Y U (k:Int))/\fr.get (a! 2)=some (Y U (l.length:Int))/\fr.get (a! 1)=some (Y U 0)/\fr.get (a! 0)=some (.slice i 0 l.length (.un 1))/\
   Kn g i (O (N 3 f) ((iJ ltI k l).map iV))/\Ch (λj=>j=i) h g) (A:=λfr g=>Kn g i (O (N 3 f) ((iJ ltI l.length l).map iV))/\Ch (λj=>j=i) h g) (B:=λ_ _=>False) (by rw[dP];omega) ?_ ?_) ?_ ?_
 ·exact⟨1,by omega,by omega,qK1,qK0,qK0,qK0,W,Ch.refl _ _⟩
 ·rintro m fr g ⟨k,h1,hk,b,f2,f1,p,a,d⟩;by_cases hm:m=0
  ·simp(disch:=omega)only[vvB,seval,iG,iF,b,f2];rw[show k=l.length by omega]at a;exact⟨rfl,a,d⟩
  simp(disch:=omega)only[vvB,seval,iG,iF,ug,b,f2];refine Oc.out (Q:=λo=>LS _ _ _ _ (lF (yc 1 o) aiD)) (dW (n:=k) (λj fr g=>∃t:List Int,t.length=l.length/\aaE ltI j t=iJ ltI (k+1) l/\fr.get (a! 7)=some (Y U (j:Int))/\fr.get (a! 6)=some (Y U (k:Int))/\fr.get (a! 2)=some (Y U (l.length:Int))/\fr.get (a! 1)=some (Y U 0)/\fr.get (a! 0)=some (.slice i 0 l.length (.un 1))/\
   Kn g i (O (N 3 f) (t.map iV))/\Ch (λj=>j=i) h g/\j<l.length) (A:=λfr g=>fr.get (a! 6)=some (Y U (k:Int))/\fr.get (a! 2)=some (Y U (l.length:Int))/\fr.get (a! 1)=some (Y U 0)/\fr.get (a! 0)=some (.slice i 0 l.length (.un 1))/\Kn g i (O (N 3 f) ((iJ ltI (k+1) l).map iV))/\Ch (λj=>j=i) h g) (B:=λ_ _=>False) (by rw[dP];omega) ?_ ?_) ?_ ?_
  ·exact⟨iJ ltI k l,CZ _ _ _,rfl,qK0,qK2 b,qK2 f2,qK2 f1,qK2 p,a,d,by omega⟩
  ·rintro j fr g ⟨t,ht,hb,z,b,f2,f1,p,a,d,hj⟩;cases j with
   |zero=>
    simp(disch:=omega)only[vvB,seval,jB,jy,z,f1,x!];exact⟨rfl,qK2 b,qK2 f2,qK2 f1,qK2 p,by rw[<-hb];exact a,d⟩
   |succ j=>
    obtain⟨x,M⟩:∃x,t[j+1]?=some x:=⟨_,b! (by omega)⟩
    obtain⟨y,P⟩:∃y,t[j]?=some y:=⟨_,b! (by omega)⟩
    have c:((j+1:Nat):Int) - 1=(j:Int):=by omega
    have I1:=λg=>E g (j+1) hj;have C:=λg=>E g j (by omega);have I:=L a M;have G:=L a P;unfold aaE at hb;rw[M,P]at hb;by_cases s:ltI x y=true
    ·obtain⟨w,r⟩:∃w,w=g.put i (some (O (N 3 f) ((t.set (j+1) y).map iV))):=⟨_,rfl⟩
     have J:=St (j:=j+1) y a (by omega);rw[<-r]at J;have Z:Kn w i (O (N 3 f) ((t.set (j+1) y).map iV)):=by rw[r];exact a.put _
     have c1:Ch (λj=>j=i) g w:=by rw[r];exact Ch.put _ _ rfl
     have S2:=St (j:=j) x Z (by simp;omega);simp(disch:=omega)only[vvB,seval,jB,jy,uf,tZ,z,f1,p,c,I1,C,I,G,agZ,s,J,S2];simp only[s]at hb;exact⟨j,by omega,(t.set (j+1) y).set j x,by simp[ht],hb,qK0,qK2 b,qK2 f2,qK2 f1,qK2 p,Z.put _,(d.trans c1 λ_ _ q=>q).trans (Ch.put (S:=λj=>j=i) _ _ rfl) λ_ _ q=>q,by omega⟩
    ·have v:ltI x y=false:=by simpa using s
     simp(disch:=omega)only[vvB,seval,jB,jy,z,f1,p,c,I1,C,I,G,agZ,v];simp only[v]at hb;exact⟨rfl,qK2 b,qK2 f2,qK2 f1,qK2 p,by rw[<-hb];exact a,d⟩
  ·rintro fr g ⟨b,f2,f1,p,a,d⟩;simp(disch:=omega)only[vvB,seval,aiD,b];exact⟨m - 1,by omega,k+1,by omega,by omega,qK1,qK2 f2,qK2 f1,qK2 p,a,d⟩
  ·intro fr g q;exact q.elim
 ·rintro fr g ⟨a,d⟩;exact aX.nor (qT0) ⟨a,d⟩
 ·intro fr g q;exact q.elim
def aim{h h':Hp}{v u:V}{n:Nat}(hl:aZ 2 v h=D (Y U (n:Int)) h)(hn:n<=12)(e:gY [v,Y U 0,Y U (n:Int)] h=D u h'):o7 [v] h=D V.undef h':=by
 obtain⟨k,c,-⟩:=Oa h (n:=n) (by omega);have b:jk .u64 (Y U (n:Int)) h=D (Y .u64 (n:Int)) h:=aac (by omega) (by omega);have i:∃a,oJ [v,Y U 0,Y U (n:Int),Y U k] h=D a h':=by
  rw[SX]
  suffices T:aX prog [] (λu g=>g=h') (vN (T.set (some (Y U k)) (a! 3) (T.set (some (Y U (n:Int))) (a! 2) (T.set (some (Y U 0)) (a! 1) (T.set (some v) (a! 0) T.nil)))) h) by
   obtain⟨u,g,e2,rfl⟩:=T;exact⟨u,e2⟩
  simp(disch:=omega)only[vvB,seval,vN,BK,BJ];refine Oc.out (dW (n:=0) (λm fr g=>fr.get (a! 0)=some v/\fr.get (a! 1)=some (Y U 0)/\fr.get (a! 2)=some (Y U (n:Int))/\g=h) (A:=λ_ _=>False) (B:=λfr g=>g=h') (by rw[dP];omega) ⟨qK0,qK0,qK0,rfl⟩ ?_) ?_ ?_
  ·rintro m fr g ⟨f,f1,f2,rfl⟩;simp(disch:=omega)only[vvB,seval,CB,BI,BH,BG,f,f1,f2,k!,e];rfl
  ·intro fr g q;exact q.elim
  ·rintro fr g rfl;exact aX.ret (qT0) rfl
 obtain⟨a,d⟩:=i;rw[aoI];simp(disch:=omega)only[vvB,seval,agC,Y3,Y2,hl,b,c,d];rfl
def ain{h:Hp}{v:V}(hl:aZ 2 v h=D (Y U 0) h):o7 [v] h=D V.undef h:=by
 have key:∃u,gY [v,Y U 0,Y U ((0:Nat):Int)] h=D u h:=by
  rw[sJ]
  suffices T:aX prog [] (λu h'=>h'=h) (gX (T.set (some (Y U ((0:Nat):Int))) (a! 2) (T.set (some (Y U 0)) (a! 1) (T.set (some v) (a! 0) T.nil))) h) by
   obtain⟨u,h',e,rfl⟩:=T;exact⟨u,e⟩
  simp(disch:=omega)only[vvB,seval,gX,jA];refine Oc.out (dW (n:=0) (λm fr g=>fr.get (a! 6)=some (Y U 1)/\fr.get (a! 2)=some (Y U ((0:Nat):Int))/\g=h) (A:=λfr g=>g=h) (B:=λ_ _=>False) (by rw[dP];omega) ⟨qK1,qK0,rfl⟩ ?_) ?_ ?_
  ·rintro m fr g ⟨a,f2,rfl⟩;simp(disch:=omega)only[vvB,seval,iG,iF,a,f2];exact⟨rfl,rfl⟩
  ·rintro fr g rfl;exact aX.nor (qT0) rfl
  ·intro fr g q;exact q.elim
 obtain⟨u,e⟩:=key;exact aim (n:=0) hl (p! _) e
def amW{h:Hp}{b:Nat}{P:Pos->Prop}{v:V}{l:List Int}(r:dD b P (flat eu) 3 1 h v l)(hn:l.length<=12):
  ∃h',o7 [v] h=D V.undef h'/\dD b P (flat eu) 3 1 h' v (iJ ltI l.length l)/\Ch (λj=>bV v=some j) h h':=by
 have hl:=r.len h;by_cases a:l= []
 ·subst a;exact⟨h,ain hl,r,Ch.refl _ _⟩
 ·obtain⟨i,f,rfl,hb,d⟩:=r.open a;have e1:(l.map eu).flatten=l.map iV:=amy l;rw[e1]at d;obtain⟨u,h',e,k,g⟩:=ad6 d (by omega);refine⟨h',aim hl hn e,?_,g.mono λj _ q=>by rw[q];rfl⟩;have:=dD.mk (P:=P) (b:=b) (c:=eu) (w:=1) (el:=3) (f:=f) (l:=iJ ltI l.length l) (λ_=>rfl) hb (by rw[show((iJ ltI l.length l).map eu).flatten=(iJ ltI l.length l).map iV from amy _];exact k)
  rw[CZ]at this;exact this
def ad4{h:Hp}{v:V}{P:Pos->Prop}{E:El Int}{l:List Int}(r:Rws P E 1 h v l)(hn:l.length<=1):pI [v] h=D v h:=by
 rw[PE];simp(disch:=omega)only[vvB,seval,AO,Au,DR,RI,r.len];simp only[bU,bT,vvB,seval,bW]<;>rfl
def ato{h:Hp}{v:V}{P:Pos->Prop}{l:List Int}(r:Rws P (flat eu) 1 h v l)(hl:l.length<=1000)(hn:∀(k:Nat) x y,l[k]?=some x->l[k+1]?=some y->x≠y):pI [v] h=D v h:=by
 by_cases z:l.length<=1
 ·exact ad4 r z
 rw[PE]
 suffices T:aX prog [.tmp 2] (λw h'=>w=v/\h'=h) (AO (T.set (some v) (a! 0) T.nil) h) by
  obtain⟨w,h',e,rfl,rfl⟩:=T;exact e
 simp(disch:=omega)only[vvB,seval,AO,Au,DR,RH,r.len];refine Oc.then (dW (n:=l.length - 1) (λm fr g=>∃k:Nat,k+1+m=l.length/\fr.get (a! 0)=some v/\fr.get (a! 3)=some (Y U ((k:Int)+1))/\g=h) (A:=λfr g=>fr.get (a! 0)=some v/\g=h) (B:=λ_ _=>False) (by rw[dP];omega) ⟨0,by omega,qK0,qK1,rfl⟩ ?_) ?_ ?_
 ·rintro m fr g ⟨k,hk,a,f3,rfl⟩;by_cases E:m=0
  ·simp(disch:=omega)only[vvB,seval,DZ,DN,a,f3,r.len];exact⟨rfl,qK2 a,rfl⟩
  ·obtain⟨x,j⟩:∃x,l[k]?=some x:=⟨_,b! (by omega)⟩
   obtain⟨y,o⟩:∃y,l[k+1]?=some y:=⟨_,b! (by omega)⟩
   obtain⟨i,q,cs,e1,ex,-,-,-,e2,-⟩:=r.elt j;obtain rfl:cs=eu x:=ex;obtain⟨i',q',b,c,u,-,-,-,d,-⟩:=r.elt o;obtain rfl:b=eu y:=u;have s:aG (X i q) g=D (iV x) g:=e2 g rfl 0 _ rfl;have t:aG (X i' q') g=D (iV y) g:=d g rfl 0 _ rfl;have p:∀g,bD 1 v (Y U ((k:Int)+1)) g=D (X i' q') g:=λg=>c g;have C:(k:Int)+1 - 1=(k:Int):=by omega
   have f:(y=x)=False:=eq_false λe=>hn k x y j o e.symm;simp(disch:=omega)only[vvB,seval,DZ,DN,RF,RG,a,f3,r.len,p,t,C,e1,s,f];exact⟨m - 1,by omega,k+1,by omega,qK2 a,qK1,rfl⟩
 ·rintro fr g ⟨a,rfl⟩;simp(disch:=omega)only[vvB,seval,RI,a];exact aX.ret (qT0) ⟨rfl,rfl⟩
 ·intro fr g q;exact q.elim
def alN(x:(List Nat))(h:Hp):rD [H x] h=D (K false) h:=by
 rw[aeg];simp only[vvB,seval,Q5,aiG,JI,decide_false,not_true];simp only[bU,bT,vvB,seval,bW]
def Xj(x y:(List Nat))(h:Hp):AV [H x,H y] h=D (K (kZ x y)) h:=by
 rw[agV];simp only[vvB,seval,WV,afk,RN,alN,auZ];simp only[bU,bT,vvB,seval,bW]<;>rfl
def Xt{h:Hp}{i:Pos}{f:Bool}{l:List (List Nat)}(W:Kn h i (O (N 9 f) (l.map H)))(hn:l.length<=1000):
  ∃u h',fP [.slice i 0 l.length (.un 1),Y U 0,Y U (l.length:Int)] h=D u h'/\Kn h' i (O (N 9 f) ((iJ kZ l.length l).map H))/\Ch (λj=>j=i) h h':=by
 rw[qo]
 suffices T:aX prog [] (λu h'=>Kn h' i (O (N 9 f) ((iJ kZ l.length l).map H))/\Ch (λj=>j=i) h h') (fO (T.set (some (Y U (l.length:Int))) (a! 2) (T.set (some (Y U 0)) (a! 1) (T.set (some (.slice i 0 l.length (.un 1))) (a! 0) T.nil))) h) by
  obtain⟨u,h',e,q⟩:=T;exact⟨u,h',e,q⟩
 by_cases hz:l.length=0
 ·simp(disch:=omega)only[vvB,seval,fO,jA];refine Oc.out (dW (n:=0) (λm fr g=>fr.get (a! 6)=some (Y U 1)/\fr.get (a! 2)=some (Y U (l.length:Int))/\g=h) (A:=λfr g=>g=h) (B:=λ_ _=>False) (by rw[dP];omega) ⟨qK1,qK0,rfl⟩ ?_) ?_ ?_
  ·rintro m fr g ⟨b,f2,rfl⟩;simp(disch:=omega)only[vvB,seval,gW,iF,b,f2];exact⟨rfl,rfl⟩
  ·rintro fr g rfl;refine aX.nor (qT0) ⟨?_,Ch.refl _ _⟩;rw[hz];exact W
  ·intro fr g q;exact q.elim
 have L:∀{g:Hp} {m:List (List Nat)} {j:Nat} {x:(List Nat)},Kn g i (O (N 9 f) (m.map H))->m[j]?=some x->aG (X i j) g=D (H x) g:=λk e=>k.ld (by rw[w!,e];rfl);have St:∀{g:Hp} {m:List (List Nat)} {j:Nat} (x:(List Nat)),Kn g i (O (N 9 f) (m.map H))->j<m.length->aV 1 (X i j) (H x) g=D V.undef (g.put i (some (O (N 9 f) ((m.set j x).map H)))):=λ{g m j} x k e=>by
  rw[k.st ⟨rfl,rfl⟩ (by rw[q!];exact e),z!]
 have E:∀(g:Hp) (j:Nat),j<l.length->bD 1 (.slice i 0 l.length (.un 1)) (Y U (j:Int)) g=D (X i j) g:=λg j e=>by rw[zn e,o!,C!]
 simp(disch:=omega)only[vvB,seval,fO,jA];refine Oc.out (dW (n:=l.length - 1) (λm fr g=>∃k:Nat,1<=k/\k+m=l.length/\fr.get (a! 6)=some (Y U (k:Int))/\fr.get (a! 2)=some (Y U (l.length:Int))/\fr.get (a! 1)=some (Y U 0)/\fr.get (a! 0)=some (.slice i 0 l.length (.un 1))/\
   Kn g i (O (N 9 f) ((iJ kZ k l).map H))/\Ch (λj=>j=i) h g) (A:=λfr g=>Kn g i (O (N 9 f) ((iJ kZ l.length l).map H))/\Ch (λj=>j=i) h g) (B:=λ_ _=>False) (by rw[dP];omega) ?_ ?_) ?_ ?_
 ·exact⟨1,by omega,by omega,qK1,qK0,qK0,qK0,W,Ch.refl _ _⟩
 ·rintro m fr g ⟨k,h1,hk,b,f2,f1,p,a,d⟩;by_cases hm:m=0
  ·simp(disch:=omega)only[vvB,seval,gW,iF,b,f2];rw[show k=l.length by omega]at a;exact⟨rfl,a,d⟩
  simp(disch:=omega)only[vvB,seval,gW,iF,ug,b,f2];refine Oc.out (Q:=λo=>LS _ _ _ _ (lF (yc 1 o) aiD)) (dW (n:=k) (λj fr g=>∃t:List (List Nat),t.length=l.length/\aaE kZ j t=iJ kZ (k+1) l/\fr.get (a! 7)=some (Y U (j:Int))/\fr.get (a! 6)=some (Y U (k:Int))/\fr.get (a! 2)=some (Y U (l.length:Int))/\fr.get (a! 1)=some (Y U 0)/\fr.get (a! 0)=some (.slice i 0 l.length (.un 1))/\
   Kn g i (O (N 9 f) (t.map H))/\Ch (λj=>j=i) h g/\j<l.length) (A:=λfr g=>fr.get (a! 6)=some (Y U (k:Int))/\fr.get (a! 2)=some (Y U (l.length:Int))/\fr.get (a! 1)=some (Y U 0)/\fr.get (a! 0)=some (.slice i 0 l.length (.un 1))/\Kn g i (O (N 9 f) ((iJ kZ (k+1) l).map H))/\Ch (λj=>j=i) h g) (B:=λ_ _=>False) (by rw[dP];omega) ?_ ?_) ?_ ?_
  ·exact⟨iJ kZ k l,CZ _ _ _,rfl,qK0,qK2 b,qK2 f2,qK2 f1,qK2 p,a,d,by omega⟩
  ·rintro j fr g ⟨t,ht,hb,z,b,f2,f1,p,a,d,hj⟩;cases j with
   |zero=>
    simp(disch:=omega)only[vvB,seval,iT,iQ,z,f1,x!];exact⟨rfl,qK2 b,qK2 f2,qK2 f1,qK2 p,by rw[<-hb];exact a,d⟩
   |succ j=>
    obtain⟨x,M⟩:∃x,t[j+1]?=some x:=⟨_,b! (by omega)⟩
    obtain⟨y,P⟩:∃y,t[j]?=some y:=⟨_,b! (by omega)⟩
    have c:((j+1:Nat):Int) - 1=(j:Int):=by omega
    have I1:=λg=>E g (j+1) hj;have C:=λg=>E g j (by omega);have I:=L a M;have G:=L a P;unfold aaE at hb;rw[M,P]at hb;by_cases s:kZ x y=true
    ·obtain⟨w,r⟩:∃w,w=g.put i (some (O (N 9 f) ((t.set (j+1) y).map H))):=⟨_,rfl⟩
     have J:=St (j:=j+1) y a (by omega);rw[<-r]at J;have Z:Kn w i (O (N 9 f) ((t.set (j+1) y).map H)):=by rw[r];exact a.put _
     have c1:Ch (λj=>j=i) g w:=by rw[r];exact Ch.put _ _ rfl
     have S2:=St (j:=j) x Z (by simp;omega);simp(disch:=omega)only[vvB,seval,iT,iQ,uf,tZ,z,f1,p,c,I1,C,I,G,Xj,s,J,S2];simp only[s]at hb;exact⟨j,by omega,(t.set (j+1) y).set j x,by simp[ht],hb,qK0,qK2 b,qK2 f2,qK2 f1,qK2 p,Z.put _,(d.trans c1 λ_ _ q=>q).trans (Ch.put (S:=λj=>j=i) _ _ rfl) λ_ _ q=>q,by omega⟩
    ·have v:kZ x y=false:=by simpa using s
     simp(disch:=omega)only[vvB,seval,iT,iQ,z,f1,p,c,I1,C,I,G,Xj,v];simp only[v]at hb;exact⟨rfl,qK2 b,qK2 f2,qK2 f1,qK2 p,by rw[<-hb];exact a,d⟩
  ·rintro fr g ⟨b,f2,f1,p,a,d⟩;simp(disch:=omega)only[vvB,seval,aiD,b];exact⟨m - 1,by omega,k+1,by omega,by omega,qK1,qK2 f2,qK2 f1,qK2 p,a,d⟩
  ·intro fr g q;exact q.elim
 ·rintro fr g ⟨a,d⟩;exact aX.nor (qT0) ⟨a,d⟩
 ·intro fr g q;exact q.elim
def YF{h h':Hp}{v u:V}{n:Nat}(hl:aZ 2 v h=D (Y U (n:Int)) h)(hn:n<=12)(e:fP [v,Y U 0,Y U (n:Int)] h=D u h'):lZ [v] h=D V.undef h':=by
 obtain⟨k,c,-⟩:=Oa h (n:=n) (by omega);have b:jk .u64 (Y U (n:Int)) h=D (Y .u64 (n:Int)) h:=aac (by omega) (by omega);have i:∃a,lD [v,Y U 0,Y U (n:Int),Y U k] h=D a h':=by
  rw[NS]
  suffices T:aX prog [] (λu g=>g=h') (qy (T.set (some (Y U k)) (a! 3) (T.set (some (Y U (n:Int))) (a! 2) (T.set (some (Y U 0)) (a! 1) (T.set (some v) (a! 0) T.nil)))) h) by
   obtain⟨u,g,e2,rfl⟩:=T;exact⟨u,e2⟩
  simp(disch:=omega)only[vvB,seval,qy,BK,BJ];refine Oc.out (dW (n:=0) (λm fr g=>fr.get (a! 0)=some v/\fr.get (a! 1)=some (Y U 0)/\fr.get (a! 2)=some (Y U (n:Int))/\g=h) (A:=λ_ _=>False) (B:=λfr g=>g=h') (by rw[dP];omega) ⟨qK0,qK0,qK0,rfl⟩ ?_) ?_ ?_
  ·rintro m fr g ⟨f,f1,f2,rfl⟩;simp(disch:=omega)only[vvB,seval,xG,BI,BH,wV,f,f1,f2,k!,e];rfl
  ·intro fr g q;exact q.elim
  ·rintro fr g rfl;exact aX.ret (qT0) rfl
 obtain⟨a,d⟩:=i;rw[agS];simp(disch:=omega)only[vvB,seval,WT,Y3,Rk,hl,b,c,d];rfl
def YG{h:Hp}{v:V}(hl:aZ 2 v h=D (Y U 0) h):lZ [v] h=D V.undef h:=by
 have key:∃u,fP [v,Y U 0,Y U ((0:Nat):Int)] h=D u h:=by
  rw[qo]
  suffices T:aX prog [] (λu h'=>h'=h) (fO (T.set (some (Y U ((0:Nat):Int))) (a! 2) (T.set (some (Y U 0)) (a! 1) (T.set (some v) (a! 0) T.nil))) h) by
   obtain⟨u,h',e,rfl⟩:=T;exact⟨u,e⟩
  simp(disch:=omega)only[vvB,seval,fO,jA];refine Oc.out (dW (n:=0) (λm fr g=>fr.get (a! 6)=some (Y U 1)/\fr.get (a! 2)=some (Y U ((0:Nat):Int))/\g=h) (A:=λfr g=>g=h) (B:=λ_ _=>False) (by rw[dP];omega) ⟨qK1,qK0,rfl⟩ ?_) ?_ ?_
  ·rintro m fr g ⟨a,f2,rfl⟩;simp(disch:=omega)only[vvB,seval,gW,iF,a,f2];exact⟨rfl,rfl⟩
  ·rintro fr g rfl;exact aX.nor (qT0) rfl
  ·intro fr g q;exact q.elim
 obtain⟨u,e⟩:=key;exact YF (n:=0) hl (p! _) e
def asW{h:Hp}{b:Nat}{P:Pos->Prop}{v:V}{l:List (List Nat)}(r:dD b P (flat jT) 9 1 h v l)(hn:l.length<=12):
  ∃h',lZ [v] h=D V.undef h'/\dD b P (flat jT) 9 1 h' v (iJ kZ l.length l)/\Ch (λj=>bV v=some j) h h':=by
 have hl:=r.len h;by_cases a:l= []
 ·subst a;exact⟨h,YG hl,r,Ch.refl _ _⟩
 ·obtain⟨i,f,rfl,hb,d⟩:=r.open a;have e1:(l.map jT).flatten=l.map H:=amy l;rw[e1]at d;obtain⟨u,h',e,k,g⟩:=Xt d (by omega);refine⟨h',YF hl hn e,?_,g.mono λj _ q=>by rw[q];rfl⟩;have:=dD.mk (P:=P) (b:=b) (c:=jT) (w:=1) (el:=9) (f:=f) (l:=iJ kZ l.length l) (λ_=>rfl) hb (by rw[show((iJ kZ l.length l).map jT).flatten=(iJ kZ l.length l).map H from amy _];exact k)
  rw[CZ]at this;exact this
def alM{h:Hp}{v:V}{P:Pos->Prop}{E:El (List Nat)}{l:List (List Nat)}(r:Rws P E 1 h v l)(hn:l.length<=1):uX [v] h=D v h:=by
 rw[ZA];simp(disch:=omega)only[vvB,seval,Ph,Au,DR,RI,r.len];simp only[bU,bT,vvB,seval,bW]<;>rfl
def jQ{α:Type}(e:FuncId->Option Fun)(P:Pos->Prop)(E:El α)(h:Hp)(f:V)(l:List α):Prop:=
 ∀(g:Hp) (i j:Nat) (x y:α) (a b:List V),Nw h g->i<j->l[i]?=some x->l[j]?=some y->E P g x a->E P g y b->a.length=9->b.length=9->∃c,dn e f [.agg (V.ofList b),.agg (V.ofList a)] g=D (Y U 1) c/\Nw g c
def ahR{α:Type}{P:Pos->Prop}{E:El α}{h:Hp}{v f:V}{l:List α}(r:Rws P E 9 h v l)(C:E.Stable)(hn:l.length<=1000)(hc:jQ lV P E h f l):
  ∃u h',jC [v,Y U 0,Y U (l.length:Int),f] h=D u h'/\Nw h h':=by
 rw[EP]
 suffices T:aX prog [] (λu h'=>Nw h h') (lX (T.set (some f) (a! 3) (T.set (some (Y U (l.length:Int))) (a! 2) (T.set (some (Y U 0)) (a! 1) (T.set (some v) (a! 0) T.nil)))) h) by
  obtain⟨u,h',e,c⟩:=T;exact⟨u,h',e,c⟩
 simp(disch:=omega)only[vvB,seval,lX,qP];refine Oc.out (dW (n:=l.length) (λm fr g=>∃k:Nat,l.length<=k+m/\fr.get (a! 8)=some (Y U ((k:Int)+1))/\fr.get (a! 3)=some f/\fr.get (a! 2)=some (Y U (l.length:Int))/\fr.get (a! 1)=some (Y U 0)/\fr.get (a! 0)=some v/\Nw h g/\k<=l.length) (A:=λfr g=>Nw h g) (B:=λ_ _=>False) (by rw[dP];omega) ?_ ?_) ?_ ?_
 ·exact⟨0,by omega,qK1,qK0,qK0,qK0,qK0,Nw.refl _,by omega⟩
 ·rintro m fr g ⟨k,hk,b,f3,f2,f1,p,a,aa⟩;by_cases hm:l.length<=k+1
  ·simp(disch:=omega)only[vvB,seval,kT,kP,b,f2];exact⟨rfl,a⟩
  simp(disch:=omega)only[vvB,seval,kT,kP,qO,b,f2];refine Oc.out (Q:=λo=>LS _ _ _ _ (lF (yc 1 o) KQ)) (dW (n:=0) (λj fr s=>fr.get (a! 9)=some (Y U ((k:Int)+1))/\fr.get (a! 8)=some (Y U ((k:Int)+1))/\fr.get (a! 3)=some f/\fr.get (a! 2)=some (Y U (l.length:Int))/\fr.get (a! 1)=some (Y U 0)/\fr.get (a! 0)=some v/\s=g) (A:=λfr g=>fr.get (a! 8)=some (Y U ((k:Int)+1))/\fr.get (a! 3)=some f/\fr.get (a! 2)=some (Y U (l.length:Int))/\fr.get (a! 1)=some (Y U 0)/\fr.get (a! 0)=some v/\Nw h g) (B:=λ_ _=>False) (by rw[dP];omega) ?_ ?_) ?_ ?_
  ·exact⟨qK0,qK2 b,qK2 f3,qK2 f2,qK2 f1,qK2 p,rfl⟩
  ·rintro j fr s ⟨Z,b,f3,f2,f1,p,rfl⟩;obtain⟨x,G⟩:∃x,l[k]?=some x:=⟨_,b! (by omega)⟩
   obtain⟨y,I⟩:∃y,l[k+1]?=some y:=⟨_,b! (by omega)⟩
   obtain⟨i,q,L,e1,ex,lx,-,-,-,n1⟩:=(r.nw C a).elt G;obtain⟨i',q',M,e2,W,ly,-,-,-,n2⟩:=(r.nw C a).elt I;have w:=n1 s rfl;have z:=n2 s rfl;have t:∀g,bD 9 v (Y U ((k:Int)+1)) g=D (X i' q') g:=λg=>e2 g;have d:(k:Int)+1 - 1=(k:Int):=by omega
   obtain⟨g2,S,J⟩:=hc s k (k+1) x y L M a (by omega) G I ex W lx ly;simp(disch:=omega)only[vvB,seval,qX,qN,Z,f1,p,f3,t,z,d,e1,w,S];exact⟨rfl,qK2 b,qK2 f3,qK2 f2,qK2 f1,qK2 p,a.trans J⟩
  ·rintro fr g ⟨b,f3,f2,f1,p,a⟩;simp(disch:=omega)only[vvB,seval,KQ,b];exact⟨m - 1,by omega,k+1,by omega,qK1,qK2 f3,qK2 f2,qK2 f1,qK2 p,a,by omega⟩
  ·intro fr g q;exact q.elim
 ·rintro fr g a;exact aX.nor (qT0) a
 ·intro fr g q;exact q.elim
def Md{α:Type}{P:Pos->Prop}{E:El α}{h:Hp}{v f s:V}{l:List α}(r:Rws P E 9 h v l)(C:E.Stable)(u:jQ iD P E h f l){i j:Nat}(a:i<j)(hj:j<l.length):
  ∃h',iW [v,Y U (i:Int),Y U (j:Int),s,f] h=D (.tuple (.cons (Y U (i:Int)) (.cons (Y U (j:Int)) .nil))) h'/\Nw h h':=by
 obtain⟨x,d⟩:∃x,l[i]?=some x:=⟨_,b! (by omega)⟩
 obtain⟨y,e⟩:∃y,l[j]?=some y:=⟨_,b! hj⟩
 obtain⟨p,q,k,e1,ex,w,-,-,-,n1⟩:=r.elt d;obtain⟨G,q',m,e2,o,z,-,-,-,B⟩:=r.elt e;have b:=n1 h rfl;have c:=B h rfl;obtain⟨t,n,g⟩:=u h i j x y k m (Nw.refl _) a d e ex o w z;rw[Q7];simp(disch:=omega)only[vvB,seval,Dx,zV,zU,zT,e2,c,e1,b,n];exact⟨t,by simp only[bU,bT,vvB,seval,bW]<;>rfl,g⟩
def aqg{α:Type}{P:Pos->Prop}{E:El α}{h:Hp}{v f s:V}{l:List α}(r:Rws P E 9 h v l)(a:E.Stable)(o:jQ iD P E h f l){i j k:Nat}(d:i<j)(m:j<k)(hk:k<l.length):
  ∃h',nS [v,Y U (i:Int),Y U (j:Int),Y U (k:Int),s,f] h=D (Y U (j:Int)) h'/\Nw h h':=by
 have n:∀{g},Nw h g->jQ iD P E g f l:=λc z i j x y t u p=>o z i j x y t u (c.trans p);obtain⟨C,e1,b⟩:=Md (s:=s) r a o d (by omega);obtain⟨G,e2,e⟩:=Md (s:=s) (r.nw a b) a (n b) m hk;obtain⟨B,w,q⟩:=Md (s:=s) ((r.nw a b).nw a e) a (n (b.trans e)) d (by omega);rw[Q9];simp(disch:=omega)only[vvB,seval,sO,Ae,Ad,Ac,zZ,e1,e2,w];exact⟨B,by simp only[bU,bT,vvB,seval,bW]<;>rfl,(b.trans e).trans q⟩
def aei{α:Type}{P:Pos->Prop}{E:El α}{h:Hp}{v f:V}{l:List α}(r:Rws P E 9 h v l)(z:E.Stable)(S:jQ iD P E h f l)(h8:8<=l.length)(Q:l.length<50):
  ∃p h',jW [v,Y U 0,Y U (l.length:Int),f] h=D (.tuple (.cons p (.cons (Y U 1) .nil))) h'/\Nw h h':=by
 obtain⟨h1,o,m,W⟩:=mkW h (O (N 3 true) [Y U 0]);have L:∀{g},Nw h g->jQ iD P E g f l:=λc J i j x y G I C=>S J i j x y G I (c.trans C);obtain⟨q,hq⟩:∃q:Nat,q=l.length / 4:=⟨_,rfl⟩
 have t:1<=q/\q*3<l.length:=by omega
 obtain⟨M,e2,w⟩:=aqg (s:=X h.next 0) (r.nw z m) z (L m) (i:=q*1) (j:=q*2) (k:=q*3) (by omega) (by omega) t.2;have Z:∀g,aJ .quo .none (Y U (l.length:Int)) (Y U 4) g=D (Y U (q:Int)) g:=λg=>by
  have e:Int.tdiv (l.length:Int) 4=(q:Int):=by rw[t! (by omega)];omega
  rw[aky (by omega) (by rw[e];omega) (by rw[e];omega),e]
 have u:∀g (n:Nat),n<=3->aJ .mul .none (Y U (q:Int)) (Y U (n:Int)) g=D (Y U ((q*n:Nat):Int)) g:=λg n hn=>by
  have e:(q:Int)*(n:Int)=((q*n:Nat):Int):=by simp
  have:q*n<=q*3:=v! _ hn;rw[akz (by rw[e];omega) (by rw[e];omega),e]
 have a:=λg=>u g 1 (by omega);have b:=λg=>u g 2 (by omega);have d:=λg=>u g 3 (by omega);simp only[y!,show((2:Nat):Int)=2 from rfl,show((3:Nat):Int)=3 from rfl]at a b d;have B:=(W.nw w).ld (q:=0) (x:=Y U 0) rfl;rw[H8];simp(disch:=omega)only[vvB,seval,wM,uI,BI,uG,uF,uD,uz,uw,uq,su,rZ,rY,rX,k!,B!,<-o,Z,a,b,d,e2,B];exact⟨_,M,by simp only[bU,bT,vvB,seval,bW]<;>rfl,m.trans w⟩
def amX{α:Type}{P:Pos->Prop}{E:El α}{h:Hp}{v f:V}{l:List α}(r:Rws P E 9 h v l)(G:E.Stable)(hn:l.length<=1000)(h1:1<=l.length)(hc:jQ jE P E h f l):
  ∃h',iy [v,Y U 0,Y U (l.length:Int),f] h=D (K true) h'/\Nw h h':=by
 rw[yE]
 suffices T:aX prog [.tmp 8] (λr h'=>r=K true/\Nw h h') (jG (T.set (some f) (a! 3) (T.set (some (Y U (l.length:Int))) (a! 2) (T.set (some (Y U 0)) (a! 1) (T.set (some v) (a! 0) T.nil)))) h) by
  obtain⟨r,h',e,rfl,c⟩:=T;exact⟨h',e,c⟩
 simp(disch:=omega)only[vvB,seval,jG,mY,mX,mW];refine Oc.then (dW (n:=0) (λm fr g=>fr.get (a! 10)=some (Y U 0)/\fr.get (a! 9)=some (Y U 1)/\fr.get (a! 3)=some f/\fr.get (a! 2)=some (Y U (l.length:Int))/\fr.get (a! 0)=some v/\g=h) (A:=λ_ _=>False) (B:=λfr g=>fr.get (a! 8)=some (K true)/\Nw h g) (by rw[dP];omega) ⟨qK0,qK1,qK0,qK0,qK0,rfl⟩ ?_) ?_ ?_
 ·rintro m fr g ⟨t,d,f3,f2,p,rfl⟩;simp(disch:=omega)only[vvB,seval,nJ,mV,t];refine Oc.out (Q:=λo=>LS _ _ _ _ (lF (yc 1 (lF o _)) mQ)) (dW (n:=l.length) (λm fr b=>∃k:Nat,k+1+m=l.length+1/\fr.get (a! 9)=some (Y U ((k:Int)+1))/\fr.get (a! 3)=some f/\fr.get (a! 2)=some (Y U (l.length:Int))/\fr.get (a! 0)=some v/\Nw g b/\k+1<=l.length) (A:=λfr b=>fr.get (a! 9)=some (Y U (l.length:Int))/\fr.get (a! 2)=some (Y U (l.length:Int))/\Nw g b) (B:=λ_ _=>False) (by rw[dP];omega) ⟨0,by omega,qK3 d,qK2 f3,qK2 f2,qK2 p,Nw.refl _,h1⟩ ?_) ?_ ?_
  ·rintro m fr b ⟨k,hk,d,f3,f2,p,a,aa⟩;by_cases hm:k+1=l.length
   ·have w:((k:Int)+1<(l.length:Int))=False:=eq_false (by omega);simp(disch:=omega)only[vvB,seval,jg,je,d,f2,w];exact⟨rfl,by simp only[vvB,seval,d];rw[<-hm];rfl,qK2 f2,a⟩
   ·obtain⟨x,I⟩:∃x,l[k]?=some x:=⟨_,b! (by omega)⟩
    obtain⟨y,J⟩:∃y,l[k+1]?=some y:=⟨_,b! (by omega)⟩
    obtain⟨i,q,M,e1,ex,lx,-,-,-,n1⟩:=(r.nw G a).elt I;obtain⟨i',q',S,e2,Z,ly,-,-,-,n2⟩:=(r.nw G a).elt J;have z:=n1 b rfl;have C:=n2 b rfl;have s:∀g,bD 9 v (Y U ((k:Int)+1)) g=D (X i' q') g:=λg=>e2 g;have j:(k:Int)+1 - 1=(k:Int):=by omega
    have u:((1:Int)<0)=False:=eq_false (by decide);obtain⟨g2,W,L⟩:=hc b k (k+1) x y M S a (by omega) I J ex Z lx ly;simp(disch:=omega)only[vvB,seval,jg,je,mP,d,f2,p,f3,s,C,j,e1,z,W,u];exact⟨m - 1,by omega,k+1,by omega,qK1,qK2 f3,qK2 f2,qK2 p,a.trans L,by omega⟩
  ·rintro fr b ⟨d,f2,a⟩;simp(disch:=omega)only[vvB,seval,mO,BK,d,f2];exact⟨qK0,a⟩
  ·intro fr g q;exact q.elim
 ·intro fr g q;exact q.elim
 ·rintro fr g ⟨f8,a⟩;exact aX.ret (qT1 f8) ⟨rfl,a⟩
def ak1{α:Type}{P:Pos->Prop}{E:El α}{h:Hp}{v f:V}{l:List α}(r:Rws P E 9 h v l)(a:E.Stable)(hn:l.length<50)(p:jQ lV P E h f l)(s:jQ iD P E h f l)(t:jQ jE P E h f l):
  ∃h',uT [v,f] h=D V.undef h'/\Nw h h':=by
 obtain⟨k,W,w⟩:=Oa h (n:=l.length) (by omega);have M:jk .u64 (Y U (l.length:Int)) h=D (Y .u64 (l.length:Int)) h:=aac (by omega) (by omega);have pd:∃I h',l7 [v,Y U 0,Y U (l.length:Int),Y U k,f] h=D I h'/\Nw h h':=by
  rw[Pz]
  suffices T:aX prog [] (λu g=>Nw h g) (qV (T.set (some f) (a! 4) (T.set (some (Y U k)) (a! 3) (T.set (some (Y U (l.length:Int))) (a! 2) (T.set (some (Y U 0)) (a! 1) (T.set (some v) (a! 0) T.nil))))) h) by
   obtain⟨u,g,e2,c⟩:=T;exact⟨u,g,e2,c⟩
  simp(disch:=omega)only[vvB,seval,qV,yS,yR];refine Oc.out (dW (n:=0) (λm fr g=>fr.get (a! 0)=some v/\fr.get (a! 1)=some (Y U 0)/\fr.get (a! 2)=some (Y U (l.length:Int))/\fr.get (a! 3)=some (Y U k)/\fr.get (a! 4)=some f/\fr.get (a! 10)=some (K true)/\fr.get (a! 11)=some (K true)/\g=h) (A:=λ_ _=>False) (B:=λfr g=>Nw h g) (by rw[dP];omega) ⟨qK0,qK0,qK0,qK0,qK0,qK0,qK0,rfl⟩ ?_) ?_ ?_
  ·rintro m fr g ⟨C,f1,f2,f3,G,d,o,rfl⟩;by_cases aa:l.length<=12
   ·obtain⟨u,g1,e,c⟩:=ahR r a (by omega) p;simp(disch:=omega)only[vvB,seval,pY,pV,pU,yQ,C,f1,f2,G,k!,e];exact c
   ·have hk:=w (by omega);have z:(k=0)=False:=eq_false hk;obtain⟨pp,g1,e1,b⟩:=aei r a s (by omega) hn;obtain⟨g2,e2,L⟩:=amX (r.nw a b) a (by omega) (by omega) (f:=f) λg' i j x y Q S J=>t g' i j x y Q S (b.trans J);simp(disch:=omega)only[vvB,seval,pY,pV,pU,yP,yO,xw,xu,xq,xg,C,f1,f2,f3,G,d,o,k!,z,e1,e2];exact b.trans L
  ·intro fr g q;exact q.elim
  ·rintro fr g c;exact aX.ret (qT0) c
 obtain⟨I,h',Z,c⟩:=pd;refine⟨h',?_,c⟩;rw[Zu];simp(disch:=omega)only[vvB,seval,O9,IY,IX,r.len,M,W,Z];rfl
def jR{α:Type}(e:FuncId->Option Fun)(P:Pos->Prop)(E:El α)(h:Hp)(f:V)(l:List α):Prop:=
 ∀(g:Hp) (i j:Nat) (x y:α) (a b:List V),Nw h g->i<j->l[i]?=some x->l[j]?=some y->E P g x a->E P g y b->a.length=2->b.length=2->∃c,dn e f [.agg (V.ofList b),.agg (V.ofList a)] g=D (Y U 1) c/\Nw g c
def ahS{α:Type}{P:Pos->Prop}{E:El α}{h:Hp}{v f:V}{l:List α}(r:Rws P E 2 h v l)(C:E.Stable)(hn:l.length<=1000)(hc:jR lW P E h f l):
  ∃u h',jD [v,Y U 0,Y U (l.length:Int),f] h=D u h'/\Nw h h':=by
 rw[EQ]
 suffices T:aX prog [] (λu h'=>Nw h h') (lY (T.set (some f) (a! 3) (T.set (some (Y U (l.length:Int))) (a! 2) (T.set (some (Y U 0)) (a! 1) (T.set (some v) (a! 0) T.nil)))) h) by
  obtain⟨u,h',e,c⟩:=T;exact⟨u,h',e,c⟩
 simp(disch:=omega)only[vvB,seval,lY,qP];refine Oc.out (dW (n:=l.length) (λm fr g=>∃k:Nat,l.length<=k+m/\fr.get (a! 8)=some (Y U ((k:Int)+1))/\fr.get (a! 3)=some f/\fr.get (a! 2)=some (Y U (l.length:Int))/\fr.get (a! 1)=some (Y U 0)/\fr.get (a! 0)=some v/\Nw h g/\k<=l.length) (A:=λfr g=>Nw h g) (B:=λ_ _=>False) (by rw[dP];omega) ?_ ?_) ?_ ?_
 ·exact⟨0,by omega,qK1,qK0,qK0,qK0,qK0,Nw.refl _,by omega⟩
 ·rintro m fr g ⟨k,hk,b,f3,f2,f1,p,a,aa⟩;by_cases hm:l.length<=k+1
  ·simp(disch:=omega)only[vvB,seval,kU,kP,b,f2];exact⟨rfl,a⟩
  simp(disch:=omega)only[vvB,seval,kU,kP,qO,b,f2];refine Oc.out (Q:=λo=>LS _ _ _ _ (lF (yc 1 o) KQ)) (dW (n:=0) (λj fr s=>fr.get (a! 9)=some (Y U ((k:Int)+1))/\fr.get (a! 8)=some (Y U ((k:Int)+1))/\fr.get (a! 3)=some f/\fr.get (a! 2)=some (Y U (l.length:Int))/\fr.get (a! 1)=some (Y U 0)/\fr.get (a! 0)=some v/\s=g) (A:=λfr g=>fr.get (a! 8)=some (Y U ((k:Int)+1))/\fr.get (a! 3)=some f/\fr.get (a! 2)=some (Y U (l.length:Int))/\fr.get (a! 1)=some (Y U 0)/\fr.get (a! 0)=some v/\Nw h g) (B:=λ_ _=>False) (by rw[dP];omega) ?_ ?_) ?_ ?_
  ·exact⟨qK0,qK2 b,qK2 f3,qK2 f2,qK2 f1,qK2 p,rfl⟩
  ·rintro j fr s ⟨Z,b,f3,f2,f1,p,rfl⟩;obtain⟨x,G⟩:∃x,l[k]?=some x:=⟨_,b! (by omega)⟩
   obtain⟨y,I⟩:∃y,l[k+1]?=some y:=⟨_,b! (by omega)⟩
   obtain⟨i,q,L,e1,ex,lx,-,-,-,n1⟩:=(r.nw C a).elt G;obtain⟨i',q',M,e2,W,ly,-,-,-,n2⟩:=(r.nw C a).elt I;have w:=n1 s rfl;have z:=n2 s rfl;have t:∀g,bD 2 v (Y U ((k:Int)+1)) g=D (X i' q') g:=λg=>e2 g;have d:(k:Int)+1 - 1=(k:Int):=by omega
   obtain⟨g2,S,J⟩:=hc s k (k+1) x y L M a (by omega) G I ex W lx ly;simp(disch:=omega)only[vvB,seval,qY,qQ,Z,f1,p,f3,t,z,d,e1,w,S];exact⟨rfl,qK2 b,qK2 f3,qK2 f2,qK2 f1,qK2 p,a.trans J⟩
  ·rintro fr g ⟨b,f3,f2,f1,p,a⟩;simp(disch:=omega)only[vvB,seval,KQ,b];exact⟨m - 1,by omega,k+1,by omega,qK1,qK2 f3,qK2 f2,qK2 f1,qK2 p,a,by omega⟩
  ·intro fr g q;exact q.elim
 ·rintro fr g a;exact aX.nor (qT0) a
 ·intro fr g q;exact q.elim
def Me{α:Type}{P:Pos->Prop}{E:El α}{h:Hp}{v f s:V}{l:List α}(r:Rws P E 2 h v l)(C:E.Stable)(u:jR iE P E h f l){i j:Nat}(a:i<j)(hj:j<l.length):
  ∃h',iY [v,Y U (i:Int),Y U (j:Int),s,f] h=D (.tuple (.cons (Y U (i:Int)) (.cons (Y U (j:Int)) .nil))) h'/\Nw h h':=by
 obtain⟨x,d⟩:∃x,l[i]?=some x:=⟨_,b! (by omega)⟩
 obtain⟨y,e⟩:∃y,l[j]?=some y:=⟨_,b! hj⟩
 obtain⟨p,q,k,e1,ex,w,-,-,-,n1⟩:=r.elt d;obtain⟨G,q',m,e2,o,z,-,-,-,B⟩:=r.elt e;have b:=n1 h rfl;have c:=B h rfl;obtain⟨t,n,g⟩:=u h i j x y k m (Nw.refl _) a d e ex o w z;rw[Q8];simp(disch:=omega)only[vvB,seval,Dy,zV,zX,zT,e2,c,e1,b,n];exact⟨t,by simp only[bU,bT,vvB,seval,bW]<;>rfl,g⟩
def aqh{α:Type}{P:Pos->Prop}{E:El α}{h:Hp}{v f s:V}{l:List α}(r:Rws P E 2 h v l)(a:E.Stable)(o:jR iE P E h f l){i j k:Nat}(d:i<j)(m:j<k)(hk:k<l.length):
  ∃h',nU [v,Y U (i:Int),Y U (j:Int),Y U (k:Int),s,f] h=D (Y U (j:Int)) h'/\Nw h h':=by
 have n:∀{g},Nw h g->jR iE P E g f l:=λc z i j x y t u p=>o z i j x y t u (c.trans p);obtain⟨C,e1,b⟩:=Me (s:=s) r a o d (by omega);obtain⟨G,e2,e⟩:=Me (s:=s) (r.nw a b) a (n b) m hk;obtain⟨B,w,q⟩:=Me (s:=s) ((r.nw a b).nw a e) a (n (b.trans e)) d (by omega);rw[Rf];simp(disch:=omega)only[vvB,seval,sQ,Ae,Ai,Ah,zZ,e1,e2,w];exact⟨B,by simp only[bU,bT,vvB,seval,bW]<;>rfl,(b.trans e).trans q⟩
def aej{α:Type}{P:Pos->Prop}{E:El α}{h:Hp}{v f:V}{l:List α}(r:Rws P E 2 h v l)(z:E.Stable)(S:jR iE P E h f l)(h8:8<=l.length)(Q:l.length<50):
  ∃p h',jX [v,Y U 0,Y U (l.length:Int),f] h=D (.tuple (.cons p (.cons (Y U 1) .nil))) h'/\Nw h h':=by
 obtain⟨h1,o,m,W⟩:=mkW h (O (N 3 true) [Y U 0]);have L:∀{g},Nw h g->jR iE P E g f l:=λc J i j x y G I C=>S J i j x y G I (c.trans C);obtain⟨q,hq⟩:∃q:Nat,q=l.length / 4:=⟨_,rfl⟩
 have t:1<=q/\q*3<l.length:=by omega
 obtain⟨M,e2,w⟩:=aqh (s:=X h.next 0) (r.nw z m) z (L m) (i:=q*1) (j:=q*2) (k:=q*3) (by omega) (by omega) t.2;have Z:∀g,aJ .quo .none (Y U (l.length:Int)) (Y U 4) g=D (Y U (q:Int)) g:=λg=>by
  have e:Int.tdiv (l.length:Int) 4=(q:Int):=by rw[t! (by omega)];omega
  rw[aky (by omega) (by rw[e];omega) (by rw[e];omega),e]
 have u:∀g (n:Nat),n<=3->aJ .mul .none (Y U (q:Int)) (Y U (n:Int)) g=D (Y U ((q*n:Nat):Int)) g:=λg n hn=>by
  have e:(q:Int)*(n:Int)=((q*n:Nat):Int):=by simp
  have:q*n<=q*3:=v! _ hn;rw[akz (by rw[e];omega) (by rw[e];omega),e]
 have a:=λg=>u g 1 (by omega);have b:=λg=>u g 2 (by omega);have d:=λg=>u g 3 (by omega);simp only[y!,show((2:Nat):Int)=2 from rfl,show((3:Nat):Int)=3 from rfl]at a b d;have B:=(W.nw w).ld (q:=0) (x:=Y U 0) rfl;rw[H9];simp(disch:=omega)only[vvB,seval,wO,uI,BI,uG,uF,uD,uz,uw,uq,sH,rZ,rY,rX,k!,B!,<-o,Z,a,b,d,e2,B];exact⟨_,M,by simp only[bU,bT,vvB,seval,bW]<;>rfl,m.trans w⟩
def amY{α:Type}{P:Pos->Prop}{E:El α}{h:Hp}{v f:V}{l:List α}(r:Rws P E 2 h v l)(G:E.Stable)(hn:l.length<=1000)(h1:1<=l.length)(hc:jR jF P E h f l):
  ∃h',iC [v,Y U 0,Y U (l.length:Int),f] h=D (K true) h'/\Nw h h':=by
 rw[yF]
 suffices T:aX prog [.tmp 8] (λr h'=>r=K true/\Nw h h') (jH (T.set (some f) (a! 3) (T.set (some (Y U (l.length:Int))) (a! 2) (T.set (some (Y U 0)) (a! 1) (T.set (some v) (a! 0) T.nil)))) h) by
  obtain⟨r,h',e,rfl,c⟩:=T;exact⟨h',e,c⟩
 simp(disch:=omega)only[vvB,seval,jH,mY,mX,mW];refine Oc.then (dW (n:=0) (λm fr g=>fr.get (a! 10)=some (Y U 0)/\fr.get (a! 9)=some (Y U 1)/\fr.get (a! 3)=some f/\fr.get (a! 2)=some (Y U (l.length:Int))/\fr.get (a! 0)=some v/\g=h) (A:=λ_ _=>False) (B:=λfr g=>fr.get (a! 8)=some (K true)/\Nw h g) (by rw[dP];omega) ⟨qK0,qK1,qK0,qK0,qK0,rfl⟩ ?_) ?_ ?_
 ·rintro m fr g ⟨t,d,f3,f2,p,rfl⟩;simp(disch:=omega)only[vvB,seval,nK,mV,t];refine Oc.out (Q:=λo=>LS _ _ _ _ (lF (yc 1 (lF o _)) mQ)) (dW (n:=l.length) (λm fr b=>∃k:Nat,k+1+m=l.length+1/\fr.get (a! 9)=some (Y U ((k:Int)+1))/\fr.get (a! 3)=some f/\fr.get (a! 2)=some (Y U (l.length:Int))/\fr.get (a! 0)=some v/\Nw g b/\k+1<=l.length) (A:=λfr b=>fr.get (a! 9)=some (Y U (l.length:Int))/\fr.get (a! 2)=some (Y U (l.length:Int))/\Nw g b) (B:=λ_ _=>False) (by rw[dP];omega) ⟨0,by omega,qK3 d,qK2 f3,qK2 f2,qK2 p,Nw.refl _,h1⟩ ?_) ?_ ?_
  ·rintro m fr b ⟨k,hk,d,f3,f2,p,a,aa⟩;by_cases hm:k+1=l.length
   ·have w:((k:Int)+1<(l.length:Int))=False:=eq_false (by omega);simp(disch:=omega)only[vvB,seval,jh,jf,d,f2,w];exact⟨rfl,by simp only[vvB,seval,d];rw[<-hm];rfl,qK2 f2,a⟩
   ·obtain⟨x,I⟩:∃x,l[k]?=some x:=⟨_,b! (by omega)⟩
    obtain⟨y,J⟩:∃y,l[k+1]?=some y:=⟨_,b! (by omega)⟩
    obtain⟨i,q,M,e1,ex,lx,-,-,-,n1⟩:=(r.nw G a).elt I;obtain⟨i',q',S,e2,Z,ly,-,-,-,n2⟩:=(r.nw G a).elt J;have z:=n1 b rfl;have C:=n2 b rfl;have s:∀g,bD 2 v (Y U ((k:Int)+1)) g=D (X i' q') g:=λg=>e2 g;have j:(k:Int)+1 - 1=(k:Int):=by omega
    have u:((1:Int)<0)=False:=eq_false (by decide);obtain⟨g2,W,L⟩:=hc b k (k+1) x y M S a (by omega) I J ex Z lx ly;simp(disch:=omega)only[vvB,seval,jh,jf,mP,d,f2,p,f3,s,C,j,e1,z,W,u];exact⟨m - 1,by omega,k+1,by omega,qK1,qK2 f3,qK2 f2,qK2 p,a.trans L,by omega⟩
  ·rintro fr b ⟨d,f2,a⟩;simp(disch:=omega)only[vvB,seval,mO,BK,d,f2];exact⟨qK0,a⟩
  ·intro fr g q;exact q.elim
 ·intro fr g q;exact q.elim
 ·rintro fr g ⟨f8,a⟩;exact aX.ret (qT1 f8) ⟨rfl,a⟩
def ak2{α:Type}{P:Pos->Prop}{E:El α}{h:Hp}{v f:V}{l:List α}(r:Rws P E 2 h v l)(a:E.Stable)(hn:l.length<50)(p:jR lW P E h f l)(s:jR iE P E h f l)(t:jR jF P E h f l):
  ∃h',uU [v,f] h=D V.undef h'/\Nw h h':=by
 obtain⟨k,W,w⟩:=Oa h (n:=l.length) (by omega);have M:jk .u64 (Y U (l.length:Int)) h=D (Y .u64 (l.length:Int)) h:=aac (by omega) (by omega);have pd:∃I h',mg [v,Y U 0,Y U (l.length:Int),Y U k,f] h=D I h'/\Nw h h':=by
  rw[PD]
  suffices T:aX prog [] (λu g=>Nw h g) (qW (T.set (some f) (a! 4) (T.set (some (Y U k)) (a! 3) (T.set (some (Y U (l.length:Int))) (a! 2) (T.set (some (Y U 0)) (a! 1) (T.set (some v) (a! 0) T.nil))))) h) by
   obtain⟨u,g,e2,c⟩:=T;exact⟨u,g,e2,c⟩
  simp(disch:=omega)only[vvB,seval,qW,yS,yR];refine Oc.out (dW (n:=0) (λm fr g=>fr.get (a! 0)=some v/\fr.get (a! 1)=some (Y U 0)/\fr.get (a! 2)=some (Y U (l.length:Int))/\fr.get (a! 3)=some (Y U k)/\fr.get (a! 4)=some f/\fr.get (a! 10)=some (K true)/\fr.get (a! 11)=some (K true)/\g=h) (A:=λ_ _=>False) (B:=λfr g=>Nw h g) (by rw[dP];omega) ⟨qK0,qK0,qK0,qK0,qK0,qK0,qK0,rfl⟩ ?_) ?_ ?_
  ·rintro m fr g ⟨C,f1,f2,f3,G,d,o,rfl⟩;by_cases aa:l.length<=12
   ·obtain⟨u,g1,e,c⟩:=ahS r a (by omega) p;simp(disch:=omega)only[vvB,seval,qc,pV,pU,yV,C,f1,f2,G,k!,e];exact c
   ·have hk:=w (by omega);have z:(k=0)=False:=eq_false hk;obtain⟨pp,g1,e1,b⟩:=aej r a s (by omega) hn;obtain⟨g2,e2,L⟩:=amY (r.nw a b) a (by omega) (by omega) (f:=f) λg' i j x y Q S J=>t g' i j x y Q S (b.trans J);simp(disch:=omega)only[vvB,seval,qc,pV,pU,yP,yO,xE,xu,xq,xA,C,f1,f2,f3,G,d,o,k!,z,e1,e2];exact b.trans L
  ·intro fr g q;exact q.elim
  ·rintro fr g c;exact aX.ret (qT0) c
 obtain⟨I,h',Z,c⟩:=pd;refine⟨h',?_,c⟩;rw[Zw];simp(disch:=omega)only[vvB,seval,Pe,IY,IZ,r.len,M,W,Z];rfl
end Go.Proofs.Im
namespace Go.Vm
section
variable{h:Hp}{i:Pos}
def Kn.rws{α:Type}{c:α->List V}{sz:Nat}{w:Wr}{l:List α}{cp:Cap}(k:Kn h i (O w (l.map c).flatten))(f:∀x,(c x).length=sz)(b:zO sz (.slice i 0 l.length cp)):
  Rws (λj=>j=i) (flat c) sz h (.slice i 0 l.length cp) l:=by
 have e:∀d∈l.map c,d.length=sz:=λd hd=>by obtain⟨x,_,rfl⟩:=List.mem_map.1 hd;exact f x
 refine⟨l.map c,?_,e,⟨?_,.inr ⟨i,0,cp,w,_,rfl,k.2,by rw[k.1];rfl,λq _=>by rw[o!]⟩⟩,b,λj hj=>by cases hj;rfl⟩
 ·clear k b e;induction l with
  |nil=>exact .nil
  |cons a l m=>exact .cons rfl m
 ·rw[oD e,q!]
end
end Go.Vm
namespace Go.Im
section
variable{tM:TypeId}{I:Pos->Prop}{h:Hp}{v:V}{l:List Ml}
def aHF.rws(r:aHF tM I h v l):Rws (λj=>I j\/bV v=some j) jo 8 h v l:=by
 obtain⟨b,a,c,r⟩:=r;have a':All2 (jo (λj=>I j\/bV v=some j) h) l b:=a.mono λ_ _ e=>dG e (Nw.refl h) λj _ q=>⟨.inl q,λq=>q⟩
 rcases r with⟨rfl,rfl⟩|⟨i,f,rest,rfl,k⟩
 ·cases a;exact Rws.aQ _ _ _ _
 ·refine⟨b,a',c,⟨by rw[oD c,a.len],.inr ⟨i,0,_,N tM f,b.flatten++rest,rfl,k.2,by rw[k.1];rfl,λq d=>?_⟩⟩,λ_ _ _ _ e=>(by cases e;rfl),λj hj=>.inr hj⟩;rw[o!,List.getElem?_append_left];rw[oD c,a.len];exact d
end
end Go.Im
namespace Go.Proofs.Im
section
variable{h h' g:Hp}{F I:Pos->Prop}{ps pl ib:Pos}{A:Acc}{cb:Cap}{fb:Bool}{vm vl:V}
abbrev dV(h:Hp)(F:Pos->Prop)(ps:Pos)(A:Acc)(pl ib:Pos)(cb:Cap)(fb:Bool)(vm vl:V)(I:Pos->Prop):Prop:=AccR 78 130 55 40 85 h F ps A pl ib cb fb vm vl I
def dV.bxr(a:dV h F ps A pl ib cb fb vm vl I):Rws (λj=>j=ib) (flat gI) 6 h (.slice ib 0 A.boxes.length cb) A.boxes:=a.bx.rws (λ_=>rfl) a.cap
def dV.ch{S:Pos->Prop}(a:dV h F ps A pl ib cb fb vm vl I)(c:Ch S h h')(b:∀j,F j->¬S j):dV h' F ps A pl ib cb fb vm vl I where
 st:=a.st.ch c (b _ a.foot.1)
 lg:=a.lg.ch c (b _ a.foot.2.1)
 bx:=a.bx.ch c (b _ a.foot.2.2.1)
 cap:=a.cap
 ml:=by
  obtain⟨d,x,m,r⟩:=a.ml;exact⟨d,x.mono λ_ _ e=>dG e c λj _ q=>⟨q,b j (a.inn j q).1⟩,m,r.imp id λ⟨i,f,rest,e,k⟩=>⟨i,f,rest,e,k.ch c (b i (a.foot.2.2.2.1 i (by rw[e];rfl)))⟩⟩
 en:=a.en.ch (aN _) c (λj e=>b j (a.foot.2.2.2.2 j e)) λ_ _ q=>q.elim
 ne:=a.ne
 nm:=a.nm
 nl:=a.nl
 inn:=a.inn
 foot:=a.foot
 lt:=λj f=>Nat.lt_of_lt_of_le (a.lt j f) c.next
 enil:=a.enil
def dV.nw(a:dV h F ps A pl ib cb fb vm vl I)(c:Nw h h'):dV h' F ps A pl ib cb fb vm vl I:=a.ch c λ_ _ q=>q
def aE3{b:Bx}{p:Pos}{n:Int}{w:Wr}(k:Kn g p (O w [iV n])):Py [.agg (V.ofList (gI b)),X p 0] g=D (K (decide (b.id=n))) (g.new (O (N 55 true) (gI b))):=by
 have e1:=(Kn.new g (O (N 55 true) (gI b))).ld (q:=0) (x:=iV b.id) rfl;have e2:=(k.add (O (N 55 true) (gI b))).ld (q:=0) (x:=iV n) rfl;rw[axz];simp only[vvB,seval,ase,ai4,ai3,V.dB,e1,e2];simp only[bU,bT,vvB,seval,bW]
def aDa{m:Ml}{vk vm:V}{p:Pos}{n:Int}{w:Wr}(k:Kn g p (O w [iV n])):J4 [.agg (V.ofList (dL m vk vm)),X p 0] g=D (K (decide (m.id=n))) (g.new (O (N 40 true) (dL m vk vm))):=by
 have e1:=(Kn.new g (O (N 40 true) (dL m vk vm))).ld (q:=0) (x:=iV m.id) rfl;have e2:=(k.add (O (N 40 true) (dL m vk vm))).ld (q:=0) (x:=iV n) rfl;rw[as9];simp only[vvB,seval,aod,WA,ai3,V.dB,e1,e2];simp only[bU,bT,vvB,seval,bW]
def aCW(p:Pos)(x:V)(g:Hp):dn kC (.func (.func 169) .nil (.cons (X p 0) .nil)) [x] g=Py [x,X p 0] g:=(rfl)
def ayd(p:Pos)(x:V)(g:Hp):dn kV (.func (.func 77) .nil (.cons (X p 0) .nil)) [x] g=J4 [x,X p 0] g:=(rfl)
def aaJ(a:dV h F ps A pl ib cb fb vm vl I)(o:A.Small)(n:Int):∃h',FN [X ps 0,iV n] h=D (iV (gB (A.boxes.findIdx? λb=>decide (b.id=n)))) h'/\Nw h h':=by
 obtain⟨r,c,d,p⟩:=mkW h (O (N 3 true) [iV n]);have a1:=a.nw d;have L:=a1.st.ld (q:=10) rfl;obtain⟨m,e2,j⟩:=zS a1.bxr (aN _) (λb=>decide (b.id=n)) (by have:=o.boxes;omega) (f:=.func (.func 169) .nil (.cons (X h.next 0) .nil)) (λb cs g _ k e _=>by
  rw[show cs=gI b from e,aCW,aE3 (p.nw k)];exact⟨_,rfl,Nw.new _ _⟩)
 rw[ayT];simp only[vvB,seval,aw1,anD,anC,<-c,L,e2];exact⟨m,by simp only[bU,bT,vvB,seval,bW],d.trans j⟩
def aE2(a:dV h F ps A pl ib cb fb vm vl I)(p:A.Small)(n:Int):∃h',Xb [X ps 0,iV n] h=D (iV (gB (A.mails.findIdx? λm=>decide (m.id=n)))) h'/\Nw h h':=by
 obtain⟨s,c,d,r⟩:=mkW h (O (N 3 true) [iV n]);have a1:=a.nw d;have L:=a1.st.ld (q:=11) rfl;obtain⟨o,e2,j⟩:=FH a1.ml.rws dG (λm=>decide (m.id=n)) (by have:=p.mails;omega) (f:=.func (.func 77) .nil (.cons (X h.next 0) .nil)) (λb cs g _ k e _=>by
  obtain⟨vk,vm,rfl,-,-⟩:=e;rw[ayd,aDa (r.nw k)];exact⟨_,rfl,Nw.new _ _⟩)
 rw[axx];simp only[vvB,seval,asb,anD,aiZ,<-c,L,e2];exact⟨o,by simp only[bU,bT,vvB,seval,bW],d.trans j⟩
end
end Go.Proofs.Im
