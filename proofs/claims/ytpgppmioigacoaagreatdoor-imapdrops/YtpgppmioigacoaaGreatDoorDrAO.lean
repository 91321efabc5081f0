/- Lemmas that the claim's last text uses. No conditions. -/
import Derived.Test.YtpgppmioigacoaaGreatDoorDrAM
import Derived.Test.YtpgppmioigacoaaGreatDoorDrAL
set_option linter.all false
set_option maxRecDepth 100000
open Nat renaming reduceEqDiff→a!,ble_eq_true_of_le→d!,le_refl→g!,ble→o!,zero_add→q!,zero_le→r!,add_zero→w!,le_of_lt→A!,mul_one→B!,le_succ→C!
open Go.Vm.Pos renaming of→b!
open List renaming getElem?_eq_getElem→c!,mem_of_getElem?→h!,findIdx?_append→i!,take_add_one→j!,take_length→k!,length_eq_zero_iff→l!,length_pos_iff→n!,length_map→t!,length_eraseIdx_of_lt→u!,mem_of_mem_eraseIdx→v!,getElem?_map→x!,map_set→z!
open Go.Proofs.Tryz renaming prog→e!
open Int renaming sub_zero→p!,natCast_zero→y!
open Go.Vm.V renaming int→Y,ptr→X,bool→K,str→H
open Go.IntKind renaming i64→U
open Go.Vm.Ob renaming cells→O
open Go.Vm.Wr renaming rw→N
open Go.Vm.R renaming ok→D
noncomputable section
open Go Go.Proofs Go.Vm Go.Im
namespace Go.Proofs.Im
theorem UF(h:Hp){n:Nat}(f:n<256):∃k:Int,J4 [Y .u64 (n:Int)] h=D (Y U k) h/\(0<n->k≠0):=by
 have c:kT .u8 (Y .u64 (n:Int)) h=D (Y .u8 (n:Int)) h:=by
  show iy .u8 (vO .u8 (n:Int)) h=_;rw[zl,wrap_u8 f,fU]
 have key:∃k:Int,O6 [Y .u64 (n:Int)] h=D (Y U k) h/\(0<n->k≠0):=by
  rw[ao2]
  suffices T:aX e! [.tmp 2] (λr g=>(∃k:Int,r=Y U k/\(0<n->k≠0))/\g=h) (OW (T.set (some (Y .u64 (n:Int))) (b! 0) T.nil) h) by
   obtain⟨r,g,e,⟨k,rfl,b⟩,rfl⟩:=T;exact⟨k,e,b⟩
  simp(disch:=omega)only[vvB,a!,reduceCtorEq,↓reduceIte,OW,adt,ads,adr,adq,abf,c];refine aEN (Q:=λo=>aX e! [.tmp 2] (λr g=>(∃k:Int,r=Y U k/\(0<n->k≠0))/\g=h) (qF o Out.ret)) (by simp only[List.length_cons,List.length_nil,Nat.blt_eq];omega) (by rfl) (by rfl) λa i d=>?_;simp(disch:=omega)only[vvB,a!,reduceCtorEq,↓reduceIte];exact aX.ret (qT0) ⟨⟨(a:Int),by simp,λq=>by have:=d q;omega⟩,rfl⟩
 obtain⟨k,e,b⟩:=key;refine⟨k,?_,b⟩;rw[auu];simp(disch:=omega)only[vvB,a!,reduceCtorEq,↓reduceIte,ain,akK,akJ,e];simp only[aU,bW,vvB,a!,reduceCtorEq,↓reduceIte,bZ]<;>rfl
theorem ahv{h:Hp}{n:Int}(h0:0<=n)(a:n<1000000):kT .u64 (Y U n) h=D (Y .u64 n) h:=by
 show iy .u64 (vO .u64 n) h=_;rw[zl,fU];congr 2;simp[IntKind.wrap,IntKind.signed,IntKind.bits];omega
theorem ahf{α:Type}{P:Pos->Prop}{c:α->List V}{h:Hp}{v:V}{l:List α}(r:Rws P (flat c) 1 h v l)(x:l.length*8<=140737488355328):
  ∃r h',xK [v] h=D r h'/\Rws (λj=>h.next.nat<=j.nat) (flat c) 1 h' r l/\Nw h h'/\(l= []\/dH h.next.nat (λ_=>False) (flat c) 3 1 h' r l):=by
 obtain⟨b,a,y,s,kk,p⟩:=r;have m:l.length=0->l= []:=l!.1;rw[aiB];show aX e! _ (λr h'=>Rws (λj=>h.next.nat<=j.nat) (flat c) 1 h' r l/\Nw h h'/\(l= []\/dH h.next.nat (λ_=>False) (flat c) 3 1 h' r l)) _;by_cases t:v=.aQ
 ·subst t;have hl:l= []:=by
   rcases s.is with⟨h0,_⟩|⟨i,o,cp,wr,all,e,_⟩
   ·exact m h0
   ·cases e
  subst hl;simp(disch:=omega)only[vvB,a!,reduceCtorEq,↓reduceIte,xE,yS,yR,TN,qZ];exact aX.ret (qT0) ⟨Rws.aQ _ _ _ _,Nw.refl _,.inl (by trivial)⟩
 ·have n:∀g,aJ .eql .slice v .aQ g=D (K false) g:=λg=>by
   rcases s.is with⟨_,h0|h0⟩|⟨i,o,cp,wr,all,h0,_⟩
   ·exact absurd h0 t
   ·rw[h0];rfl
   ·rw[h0];rfl
  have f:Nw h (h.new (O (N 3 true) [])):=Nw.new _ _;have w:Sl h.next.nat (h.new (O (N 3 true) [])) 1 v l.length b.flatten:=s.ch f (g! _) λ_ _ q=>q;by_cases hl:l= []
  ·subst hl;cases a;have k:cZ 3 1 8 (.slice h.next 0 0 (.kn 0)) v (h.new (O (N 3 true) []))=D (.slice h.next 0 0 (.kn 0)) (h.new (O (N 3 true) [])):=QO w;simp(disch:=omega)only[vvB,a!,reduceCtorEq,↓reduceIte,xE,yS,yR,GN,n,qW,k];exact aX.ret (qT0) ⟨Rws.zero (g! _),f,.inl (by trivial)⟩
  ·have d:0<l.length:=n!.2 hl;have k:cZ 3 1 8 (.slice h.next 0 0 (.kn 0)) v (h.new (O (N 3 true) []))=_:=FP w d (p:=h.next) (wr:=N 3 true) (cs0:= []) (by rw[dR];rfl) x;simp(disch:=omega)only[vvB,a!,reduceCtorEq,↓reduceIte,xE,yS,yR,GN,n,qW,k];have u:dH h.next.nat (λ_=>False) (flat c) 3 1 ((h.new (O (N 3 true) [])).new (O (N 3 false) b.flatten)) (.slice (h.new (O (N 3 true) [])).next 0 l.length (.un 1)) l:=
    ⟨b,a,y,s.len,.inr ⟨_,rfl,by have:=bD h (O (N 3 true) []);omega,by have:=bD (h.new (O (N 3 true) [])) (O (N 3 false) b.flatten);omega,false,dR _ _⟩⟩
   exact aX.ret (qT0) ⟨u.rows (aK _) (λ_ _ q=>q.elim) λ_ q _=>q,f.trans (Nw.new _ _),.inr u⟩
theorem auC{α:Type}{P:Pos->Prop}{c:α->List V}{h:Hp}{v:V}{l:List α}(r:Rws P (flat c) 6 h v l)(x:l.length*56<=140737488355328):
  ∃r h',DT [v] h=D r h'/\Rws (λj=>h.next.nat<=j.nat) (flat c) 6 h' r l/\Nw h h'/\(l= []\/dH h.next.nat (λ_=>False) (flat c) 55 6 h' r l):=by
 obtain⟨b,a,y,s,kk,p⟩:=r;have m:l.length=0->l= []:=l!.1;rw[aiC];show aX e! _ (λr h'=>Rws (λj=>h.next.nat<=j.nat) (flat c) 6 h' r l/\Nw h h'/\(l= []\/dH h.next.nat (λ_=>False) (flat c) 55 6 h' r l)) _;by_cases t:v=.aQ
 ·subst t;have hl:l= []:=by
   rcases s.is with⟨h0,_⟩|⟨i,o,cp,wr,all,e,_⟩
   ·exact m h0
   ·cases e
  subst hl;simp(disch:=omega)only[vvB,a!,reduceCtorEq,↓reduceIte,xG,yU,yT,TP,qZ];exact aX.ret (qT0) ⟨Rws.aQ _ _ _ _,Nw.refl _,.inl (by trivial)⟩
 ·have n:∀g,aJ .eql .slice v .aQ g=D (K false) g:=λg=>by
   rcases s.is with⟨_,h0|h0⟩|⟨i,o,cp,wr,all,h0,_⟩
   ·exact absurd h0 t
   ·rw[h0];rfl
   ·rw[h0];rfl
  have f:Nw h (h.new (O (N 55 true) [])):=Nw.new _ _;have w:Sl h.next.nat (h.new (O (N 55 true) [])) 6 v l.length b.flatten:=s.ch f (g! _) λ_ _ q=>q;by_cases hl:l= []
  ·subst hl;cases a;have k:cZ 55 6 56 (.slice h.next 0 0 (.kn 0)) v (h.new (O (N 55 true) []))=D (.slice h.next 0 0 (.kn 0)) (h.new (O (N 55 true) [])):=QO w;simp(disch:=omega)only[vvB,a!,reduceCtorEq,↓reduceIte,xG,yU,yT,GR,n,qW,k];exact aX.ret (qT0) ⟨Rws.zero (g! _),f,.inl (by trivial)⟩
  ·have d:0<l.length:=n!.2 hl;have k:cZ 55 6 56 (.slice h.next 0 0 (.kn 0)) v (h.new (O (N 55 true) []))=_:=FP w d (p:=h.next) (wr:=N 55 true) (cs0:= []) (by rw[dR];rfl) x;simp(disch:=omega)only[vvB,a!,reduceCtorEq,↓reduceIte,xG,yU,yT,GR,n,qW,k];have u:dH h.next.nat (λ_=>False) (flat c) 55 6 ((h.new (O (N 55 true) [])).new (O (N 55 false) b.flatten)) (.slice (h.new (O (N 55 true) [])).next 0 l.length (.un 6)) l:=
    ⟨b,a,y,s.len,.inr ⟨_,rfl,by have:=bD h (O (N 55 true) []);omega,by have:=bD (h.new (O (N 55 true) [])) (O (N 55 false) b.flatten);omega,false,dR _ _⟩⟩
   exact aX.ret (qT0) ⟨u.rows (aK _) (λ_ _ q=>q.elim) λ_ q _=>q,f.trans (Nw.new _ _),.inr u⟩
theorem apa{α:Type}{P:Pos->Prop}{c:α->List V}{h:Hp}{v:V}{l:List α}(r:Rws P (flat c) 4 h v l)(x:l.length*32<=140737488355328):
  ∃r h',oz [v] h=D r h'/\Rws (λj=>h.next.nat<=j.nat) (flat c) 4 h' r l/\Nw h h'/\(l= []\/dH h.next.nat (λ_=>False) (flat c) 85 4 h' r l):=by
 obtain⟨b,a,y,s,kk,p⟩:=r;have m:l.length=0->l= []:=l!.1;rw[MS];show aX e! _ (λr h'=>Rws (λj=>h.next.nat<=j.nat) (flat c) 4 h' r l/\Nw h h'/\(l= []\/dH h.next.nat (λ_=>False) (flat c) 85 4 h' r l)) _;by_cases t:v=.aQ
 ·subst t;have hl:l= []:=by
   rcases s.is with⟨h0,_⟩|⟨i,o,cp,wr,all,e,_⟩
   ·exact m h0
   ·cases e
  subst hl;simp(disch:=omega)only[vvB,a!,reduceCtorEq,↓reduceIte,oh,oP,oO,BQ,qZ];exact aX.ret (qT0) ⟨Rws.aQ _ _ _ _,Nw.refl _,.inl (by trivial)⟩
 ·have n:∀g,aJ .eql .slice v .aQ g=D (K false) g:=λg=>by
   rcases s.is with⟨_,h0|h0⟩|⟨i,o,cp,wr,all,h0,_⟩
   ·exact absurd h0 t
   ·rw[h0];rfl
   ·rw[h0];rfl
  have f:Nw h (h.new (O (N 85 true) [])):=Nw.new _ _;have w:Sl h.next.nat (h.new (O (N 85 true) [])) 4 v l.length b.flatten:=s.ch f (g! _) λ_ _ q=>q;by_cases hl:l= []
  ·subst hl;cases a;have k:cZ 85 4 32 (.slice h.next 0 0 (.kn 0)) v (h.new (O (N 85 true) []))=D (.slice h.next 0 0 (.kn 0)) (h.new (O (N 85 true) [])):=QO w;simp(disch:=omega)only[vvB,a!,reduceCtorEq,↓reduceIte,oh,oP,oO,BP,n,qW,k];exact aX.ret (qT0) ⟨Rws.zero (g! _),f,.inl (by trivial)⟩
  ·have d:0<l.length:=n!.2 hl;have k:cZ 85 4 32 (.slice h.next 0 0 (.kn 0)) v (h.new (O (N 85 true) []))=_:=FP w d (p:=h.next) (wr:=N 85 true) (cs0:= []) (by rw[dR];rfl) x;simp(disch:=omega)only[vvB,a!,reduceCtorEq,↓reduceIte,oh,oP,oO,BP,n,qW,k];have u:dH h.next.nat (λ_=>False) (flat c) 85 4 ((h.new (O (N 85 true) [])).new (O (N 85 false) b.flatten)) (.slice (h.new (O (N 85 true) [])).next 0 l.length (.un 4)) l:=
    ⟨b,a,y,s.len,.inr ⟨_,rfl,by have:=bD h (O (N 85 true) []);omega,by have:=bD (h.new (O (N 85 true) [])) (O (N 85 false) b.flatten);omega,false,dR _ _⟩⟩
   exact aX.ret (qT0) ⟨u.rows (aK _) (λ_ _ q=>q.elim) λ_ q _=>q,f.trans (Nw.new _ _),.inr u⟩
theorem anl(h:Hp):oz [.aQ] h=D .aQ h:=by
 rw[MS];simp(disch:=omega)only[vvB,a!,reduceCtorEq,↓reduceIte,oh,oP,oO,BQ,qZ];simp only[aU,bW,vvB,a!,reduceCtorEq,↓reduceIte,bZ]
theorem ank{α:Type}{P:Pos->Prop}{c:α->List V}{h:Hp}{v:V}{l:List α}(r:Rws P (flat c) 2 h v l)(x:l.length*16<=140737488355328):
  ∃r h',wY [v] h=D r h'/\Rws (λj=>h.next.nat<=j.nat) (flat c) 2 h' r l/\Nw h h'/\(l= []\/dH h.next.nat (λ_=>False) (flat c) 106 2 h' r l):=by
 obtain⟨b,a,y,s,kk,p⟩:=r;have m:l.length=0->l= []:=l!.1;rw[abX];show aX e! _ (λr h'=>Rws (λj=>h.next.nat<=j.nat) (flat c) 2 h' r l/\Nw h h'/\(l= []\/dH h.next.nat (λ_=>False) (flat c) 106 2 h' r l)) _;by_cases t:v=.aQ
 ·subst t;have hl:l= []:=by
   rcases s.is with⟨h0,_⟩|⟨i,o,cp,wr,all,e,_⟩
   ·exact m h0
   ·cases e
  subst hl;simp(disch:=omega)only[vvB,a!,reduceCtorEq,↓reduceIte,qy,su,rZ,Me,qZ];exact aX.ret (qT0) ⟨Rws.aQ _ _ _ _,Nw.refl _,.inl (by trivial)⟩
 ·have n:∀g,aJ .eql .slice v .aQ g=D (K false) g:=λg=>by
   rcases s.is with⟨_,h0|h0⟩|⟨i,o,cp,wr,all,h0,_⟩
   ·exact absurd h0 t
   ·rw[h0];rfl
   ·rw[h0];rfl
  have f:Nw h (h.new (O (N 106 true) [])):=Nw.new _ _;have w:Sl h.next.nat (h.new (O (N 106 true) [])) 2 v l.length b.flatten:=s.ch f (g! _) λ_ _ q=>q;by_cases hl:l= []
  ·subst hl;cases a;have k:cZ 106 2 16 (.slice h.next 0 0 (.kn 0)) v (h.new (O (N 106 true) []))=D (.slice h.next 0 0 (.kn 0)) (h.new (O (N 106 true) [])):=QO w;simp(disch:=omega)only[vvB,a!,reduceCtorEq,↓reduceIte,qy,su,rZ,zX,n,qW,k];exact aX.ret (qT0) ⟨Rws.zero (g! _),f,.inl (by trivial)⟩
  ·have d:0<l.length:=n!.2 hl;have k:cZ 106 2 16 (.slice h.next 0 0 (.kn 0)) v (h.new (O (N 106 true) []))=_:=FP w d (p:=h.next) (wr:=N 106 true) (cs0:= []) (by rw[dR];rfl) x;simp(disch:=omega)only[vvB,a!,reduceCtorEq,↓reduceIte,qy,su,rZ,zX,n,qW,k];have u:dH h.next.nat (λ_=>False) (flat c) 106 2 ((h.new (O (N 106 true) [])).new (O (N 106 false) b.flatten)) (.slice (h.new (O (N 106 true) [])).next 0 l.length (.un 2)) l:=
    ⟨b,a,y,s.len,.inr ⟨_,rfl,by have:=bD h (O (N 106 true) []);omega,by have:=bD (h.new (O (N 106 true) [])) (O (N 106 false) b.flatten);omega,false,dR _ _⟩⟩
   exact aX.ret (qT0) ⟨u.rows (aK _) (λ_ _ q=>q.elim) λ_ q _=>q,f.trans (Nw.new _ _),.inr u⟩
theorem XM{α:Type}{P:Pos->Prop}{c:α->List V}{h:Hp}{v:V}{l:List α}(r:Rws P (flat c) 1 h v l)(x:l.length*16<=140737488355328):
  ∃r h',qC [v] h=D r h'/\Rws (λj=>h.next.nat<=j.nat) (flat c) 1 h' r l/\Nw h h'/\(l= []\/dH h.next.nat (λ_=>False) (flat c) 9 1 h' r l):=by
 obtain⟨b,a,y,s,kk,p⟩:=r;have m:l.length=0->l= []:=l!.1;rw[abW];show aX e! _ (λr h'=>Rws (λj=>h.next.nat<=j.nat) (flat c) 1 h' r l/\Nw h h'/\(l= []\/dH h.next.nat (λ_=>False) (flat c) 9 1 h' r l)) _;by_cases t:v=.aQ
 ·subst t;have hl:l= []:=by
   rcases s.is with⟨h0,_⟩|⟨i,o,cp,wr,all,e,_⟩
   ·exact m h0
   ·cases e
  subst hl;simp(disch:=omega)only[vvB,a!,reduceCtorEq,↓reduceIte,qx,rY,rX,Md,qZ];exact aX.ret (qT0) ⟨Rws.aQ _ _ _ _,Nw.refl _,.inl (by trivial)⟩
 ·have n:∀g,aJ .eql .slice v .aQ g=D (K false) g:=λg=>by
   rcases s.is with⟨_,h0|h0⟩|⟨i,o,cp,wr,all,h0,_⟩
   ·exact absurd h0 t
   ·rw[h0];rfl
   ·rw[h0];rfl
  have f:Nw h (h.new (O (N 9 true) [])):=Nw.new _ _;have w:Sl h.next.nat (h.new (O (N 9 true) [])) 1 v l.length b.flatten:=s.ch f (g! _) λ_ _ q=>q;by_cases hl:l= []
  ·subst hl;cases a;have k:cZ 9 1 16 (.slice h.next 0 0 (.kn 0)) v (h.new (O (N 9 true) []))=D (.slice h.next 0 0 (.kn 0)) (h.new (O (N 9 true) [])):=QO w;simp(disch:=omega)only[vvB,a!,reduceCtorEq,↓reduceIte,qx,rY,rX,zW,n,qW,k];exact aX.ret (qT0) ⟨Rws.zero (g! _),f,.inl (by trivial)⟩
  ·have d:0<l.length:=n!.2 hl;have k:cZ 9 1 16 (.slice h.next 0 0 (.kn 0)) v (h.new (O (N 9 true) []))=_:=FP w d (p:=h.next) (wr:=N 9 true) (cs0:= []) (by rw[dR];rfl) x;simp(disch:=omega)only[vvB,a!,reduceCtorEq,↓reduceIte,qx,rY,rX,zW,n,qW,k];have u:dH h.next.nat (λ_=>False) (flat c) 9 1 ((h.new (O (N 9 true) [])).new (O (N 9 false) b.flatten)) (.slice (h.new (O (N 9 true) [])).next 0 l.length (.un 1)) l:=
    ⟨b,a,y,s.len,.inr ⟨_,rfl,by have:=bD h (O (N 9 true) []);omega,by have:=bD (h.new (O (N 9 true) [])) (O (N 9 false) b.flatten);omega,false,dR _ _⟩⟩
   exact aX.ret (qT0) ⟨u.rows (aK _) (λ_ _ q=>q.elim) λ_ q _=>q,f.trans (Nw.new _ _),.inr u⟩
theorem yD{α:Type}{P:Pos->Prop}{E:El α}{h:Hp}{v f:V}{l:List α}(r:Rws P E 6 h v l)(L:E.Stable)(p:α->Bool)(W:l.length<=1000000000)
  (Q:∀a cs g,a∈l->Nw h g->E P g a cs->cs.length=6->∃o,dK jT f [.agg (V.ofList cs)] g=D (K (p a)) o/\Nw g o):
  ∃h',jU [v,f] h=D (Y U (gK (l.findIdx? p))) h'/\Nw h h':=by
 rw[Z7]
 suffices T:aX e! [.tmp 4] (λr h'=>r=Y U (gK (l.findIdx? p))/\Nw h h') (uF (T.set (some f) (b! 1) (T.set (some v) (b! 0) T.nil)) h) by
  obtain⟨r,h',e,rfl,c⟩:=T;exact⟨h',e,c⟩
 simp(disch:=omega)only[vvB,a!,reduceCtorEq,↓reduceIte,uF,IV,IU,r.len,IY];refine Oc.then (dS (σ:=Unit) (n:=l.length) (pi:=8) (pn:=7) (pc:=9) [0,1] (λ_=> [v,f]) (λk _ g=>Nw h g/\(l.take k).findIdx? p=none)
  (A:=λfr g=>Nw h g/\l.findIdx? p=none) (B:=λfr g=>fr.get (b! 4)=some (Y U (gK (l.findIdx? p)))/\Nw h g) (s:=())
  (λfr h _ k e1 e2=>by simp only[vvB,a!,reduceCtorEq,↓reduceIte,IQ,e1,e2]) (λfr h k _ e1=>by simp(disch:=omega)only[vvB,a!,reduceCtorEq,↓reduceIte,II,e1]) (by decide) (by rw[dW];omega) (qK0) (qK0) (by simp only[Fa,vvB,a!,reduceCtorEq,↓reduceIte,and_self]) ⟨Nw.refl _,by simp⟩ ?_ ?_) ?_ ?_
 ·intro k _ fr g S m J y t;obtain⟨f0,f1,-⟩:=y;obtain⟨c,b⟩:=t;obtain⟨x,j⟩:∃x,l[k]?=some x:=⟨_,c! S⟩
  obtain⟨i,q,cs,e1,ex,M,hi,-,-,z⟩:=(r.nw L c).elt j;obtain⟨o,C,w⟩:=Q x cs g (h! j) c ex M;have G:=z g rfl;simp(disch:=omega)only[vvB,a!,reduceCtorEq,↓reduceIte,IL,IK,f0,f1,m,e1,G,C];by_cases u:p x=true
  ·simp only[vvB,a!,reduceCtorEq,↓reduceIte,u,IJ,m];refine⟨?_,c.trans w⟩;simp only[vvB,a!,reduceCtorEq,↓reduceIte];rw[o8 j b u];rfl
  ·have d:p x=false:=by simpa using u
   simp only[vvB,a!,reduceCtorEq,↓reduceIte,d];refine⟨qK2 m,qK2 J,(),by simp only[Fa,vvB,a!,reduceCtorEq,↓reduceIte,f0,f1,and_self],c.trans w,?_⟩;rw[j!,j];simp[i!,b,d]
 ·intro _ fr g y t;obtain⟨c,b⟩:=t;rw[k!]at b;exact⟨c,b⟩
 ·rintro fr g ⟨c,b⟩;simp only[vvB,a!,reduceCtorEq,↓reduceIte,IG];exact aX.ret (qT0) ⟨by rw[b];rfl,c⟩
 ·rintro fr g ⟨I,c⟩;exact aX.ret (qT1 I) ⟨rfl,c⟩
theorem aj3{α:Type}{P:Pos->Prop}{E:El α}{h:Hp}{v f:V}{l:List α}(r:Rws P E 1 h v l)(M:E.Stable)(p:α->Bool)(Z:l.length<=1000000000)
  (S:∀a x g,a∈l->Nw h g->E P g a [x]->∃o,dK oU f [x] g=D (K (p a)) o/\Nw g o):
  ∃h',uH [v,f] h=D (Y U (gK (l.findIdx? p))) h'/\Nw h h':=by
 rw[Z5]
 suffices T:aX e! [.tmp 4] (λr h'=>r=Y U (gK (l.findIdx? p))/\Nw h h') (uD (T.set (some f) (b! 1) (T.set (some v) (b! 0) T.nil)) h) by
  obtain⟨r,h',e,rfl,c⟩:=T;exact⟨h',e,c⟩
 simp(disch:=omega)only[vvB,a!,reduceCtorEq,↓reduceIte,uD,IE,IC,r.len,IX];refine Oc.then (dS (σ:=Unit) (n:=l.length) (pi:=8) (pn:=7) (pc:=9) [0,1] (λ_=> [v,f]) (λk _ g=>Nw h g/\(l.take k).findIdx? p=none)
  (A:=λfr g=>Nw h g/\l.findIdx? p=none) (B:=λfr g=>fr.get (b! 4)=some (Y U (gK (l.findIdx? p)))/\Nw h g) (s:=())
  (λfr h _ k e1 e2=>by simp only[vvB,a!,reduceCtorEq,↓reduceIte,IB,e1,e2]) (λfr h k _ e1=>by simp(disch:=omega)only[vvB,a!,reduceCtorEq,↓reduceIte,Iw,e1]) (by decide) (by rw[dW];omega) (qK0) (qK0) (by simp only[Fa,vvB,a!,reduceCtorEq,↓reduceIte,and_self]) ⟨Nw.refl _,by simp⟩ ?_ ?_) ?_ ?_
 ·intro k _ fr g W m L z t;obtain⟨f0,f1,-⟩:=z;obtain⟨c,b⟩:=t;obtain⟨x,j⟩:∃x,l[k]?=some x:=⟨_,c! W⟩
  obtain⟨i,q,cs,e1,ex,Q,hi,-,C,-⟩:=(r.nw M c).elt j;obtain⟨y,rfl⟩:=au9 Q;obtain⟨o,G,w⟩:=S x y g (h! j) c ex;have I:aF (X i q) g=D y g:=C g rfl 0 y rfl;simp(disch:=omega)only[vvB,a!,reduceCtorEq,↓reduceIte,IA,Iz,f0,f1,m,e1,I,G];by_cases u:p x=true
  ·simp only[vvB,a!,reduceCtorEq,↓reduceIte,u,Iy,m];refine⟨?_,c.trans w⟩;simp only[vvB,a!,reduceCtorEq,↓reduceIte];rw[o8 j b u];rfl
  ·have d:p x=false:=by simpa using u
   simp only[vvB,a!,reduceCtorEq,↓reduceIte,d];refine⟨qK2 m,qK2 L,(),by simp only[Fa,vvB,a!,reduceCtorEq,↓reduceIte,f0,f1,and_self],c.trans w,?_⟩;rw[j!,j];simp[i!,b,d]
 ·intro _ fr g z t;obtain⟨c,b⟩:=t;rw[k!]at b;exact⟨c,b⟩
 ·rintro fr g ⟨c,b⟩;simp only[vvB,a!,reduceCtorEq,↓reduceIte,Iu];exact aX.ret (qT0) ⟨by rw[b];rfl,c⟩
 ·rintro fr g ⟨J,c⟩;exact aX.ret (qT1 J) ⟨rfl,c⟩
theorem D6{α:Type}{P:Pos->Prop}{E:El α}{h:Hp}{v f:V}{l:List α}(r:Rws P E 8 h v l)(L:E.Stable)(p:α->Bool)(W:l.length<=1000000000)
  (Q:∀a cs g,a∈l->Nw h g->E P g a cs->cs.length=8->∃o,dK kK f [.agg (V.ofList cs)] g=D (K (p a)) o/\Nw g o):
  ∃h',kM [v,f] h=D (Y U (gK (l.findIdx? p))) h'/\Nw h h':=by
 rw[XG]
 suffices T:aX e! [.tmp 4] (λr h'=>r=Y U (gK (l.findIdx? p))/\Nw h h') (sS (T.set (some f) (b! 1) (T.set (some v) (b! 0) T.nil)) h) by
  obtain⟨r,h',e,rfl,c⟩:=T;exact⟨h',e,c⟩
 simp(disch:=omega)only[vvB,a!,reduceCtorEq,↓reduceIte,sS,Gt,Gs,r.len,H8];refine Oc.then (dS (σ:=Unit) (n:=l.length) (pi:=8) (pn:=7) (pc:=9) [0,1] (λ_=> [v,f]) (λk _ g=>Nw h g/\(l.take k).findIdx? p=none)
  (A:=λfr g=>Nw h g/\l.findIdx? p=none) (B:=λfr g=>fr.get (b! 4)=some (Y U (gK (l.findIdx? p)))/\Nw h g) (s:=())
  (λfr h _ k e1 e2=>by simp only[vvB,a!,reduceCtorEq,↓reduceIte,Gq,e1,e2]) (λfr h k _ e1=>by simp(disch:=omega)only[vvB,a!,reduceCtorEq,↓reduceIte,Gl,e1]) (by decide) (by rw[dW];omega) (qK0) (qK0) (by simp only[Fa,vvB,a!,reduceCtorEq,↓reduceIte,and_self]) ⟨Nw.refl _,by simp⟩ ?_ ?_) ?_ ?_
 ·intro k _ fr g S m J y t;obtain⟨f0,f1,-⟩:=y;obtain⟨c,b⟩:=t;obtain⟨x,j⟩:∃x,l[k]?=some x:=⟨_,c! S⟩
  obtain⟨i,q,cs,e1,ex,M,hi,-,-,z⟩:=(r.nw L c).elt j;obtain⟨o,C,w⟩:=Q x cs g (h! j) c ex M;have G:=z g rfl;simp(disch:=omega)only[vvB,a!,reduceCtorEq,↓reduceIte,Gp,Gn,f0,f1,m,e1,G,C];by_cases u:p x=true
  ·simp only[vvB,a!,reduceCtorEq,↓reduceIte,u,Gm,m];refine⟨?_,c.trans w⟩;simp only[vvB,a!,reduceCtorEq,↓reduceIte];rw[o8 j b u];rfl
  ·have d:p x=false:=by simpa using u
   simp only[vvB,a!,reduceCtorEq,↓reduceIte,d];refine⟨qK2 m,qK2 J,(),by simp only[Fa,vvB,a!,reduceCtorEq,↓reduceIte,f0,f1,and_self],c.trans w,?_⟩;rw[j!,j];simp[i!,b,d]
 ·intro _ fr g y t;obtain⟨c,b⟩:=t;rw[k!]at b;exact⟨c,b⟩
 ·rintro fr g ⟨c,b⟩;simp only[vvB,a!,reduceCtorEq,↓reduceIte,Gj];exact aX.ret (qT0) ⟨by rw[b];rfl,c⟩
 ·rintro fr g ⟨I,c⟩;exact aX.ret (qT1 I) ⟨rfl,c⟩
theorem ac1{α:Type}{P:Pos->Prop}{E:El α}{h:Hp}{v f:V}{l:List α}(r:Rws P E 1 h v l)(M:E.Stable)(p:α->Bool)(Z:l.length<=1000000000)
  (S:∀a x g,a∈l->Nw h g->E P g a [x]->∃o,dK pz f [x] g=D (K (p a)) o/\Nw g o):
  ∃h',pG [v,f] h=D (Y U (gK (l.findIdx? p))) h'/\Nw h h':=by
 rw[SY]
 suffices T:aX e! [.tmp 4] (λr h'=>r=Y U (gK (l.findIdx? p))/\Nw h h') (pF (T.set (some f) (b! 1) (T.set (some v) (b! 0) T.nil)) h) by
  obtain⟨r,h',e,rfl,c⟩:=T;exact⟨h',e,c⟩
 simp(disch:=omega)only[vvB,a!,reduceCtorEq,↓reduceIte,pF,Dl,Dk,r.len,Dv];refine Oc.then (dS (σ:=Unit) (n:=l.length) (pi:=8) (pn:=7) (pc:=9) [0,1] (λ_=> [v,f]) (λk _ g=>Nw h g/\(l.take k).findIdx? p=none)
  (A:=λfr g=>Nw h g/\l.findIdx? p=none) (B:=λfr g=>fr.get (b! 4)=some (Y U (gK (l.findIdx? p)))/\Nw h g) (s:=())
  (λfr h _ k e1 e2=>by simp only[vvB,a!,reduceCtorEq,↓reduceIte,Dj,e1,e2]) (λfr h k _ e1=>by simp(disch:=omega)only[vvB,a!,reduceCtorEq,↓reduceIte,C9,e1]) (by decide) (by rw[dW];omega) (qK0) (qK0) (by simp only[Fa,vvB,a!,reduceCtorEq,↓reduceIte,and_self]) ⟨Nw.refl _,by simp⟩ ?_ ?_) ?_ ?_
 ·intro k _ fr g W m L z t;obtain⟨f0,f1,-⟩:=z;obtain⟨c,b⟩:=t;obtain⟨x,j⟩:∃x,l[k]?=some x:=⟨_,c! W⟩
  obtain⟨i,q,cs,e1,ex,Q,hi,-,C,-⟩:=(r.nw M c).elt j;obtain⟨y,rfl⟩:=au9 Q;obtain⟨o,G,w⟩:=S x y g (h! j) c ex;have I:aF (X i q) g=D y g:=C g rfl 0 y rfl;simp(disch:=omega)only[vvB,a!,reduceCtorEq,↓reduceIte,Di,Dh,f0,f1,m,e1,I,G];by_cases u:p x=true
  ·simp only[vvB,a!,reduceCtorEq,↓reduceIte,u,Dc,m];refine⟨?_,c.trans w⟩;simp only[vvB,a!,reduceCtorEq,↓reduceIte];rw[o8 j b u];rfl
  ·have d:p x=false:=by simpa using u
   simp only[vvB,a!,reduceCtorEq,↓reduceIte,d];refine⟨qK2 m,qK2 L,(),by simp only[Fa,vvB,a!,reduceCtorEq,↓reduceIte,f0,f1,and_self],c.trans w,?_⟩;rw[j!,j];simp[i!,b,d]
 ·intro _ fr g z t;obtain⟨c,b⟩:=t;rw[k!]at b;exact⟨c,b⟩
 ·rintro fr g ⟨c,b⟩;simp only[vvB,a!,reduceCtorEq,↓reduceIte,CZ];exact aX.ret (qT0) ⟨by rw[b];rfl,c⟩
 ·rintro fr g ⟨J,c⟩;exact aX.ret (qT1 J) ⟨rfl,c⟩
theorem afb{α:Type}{P:Pos->Prop}{E:El α}{h:Hp}{v f:V}{l:List α}(r:Rws P E 2 h v l)(L:E.Stable)(p:α->Bool)(W:l.length<=1000000000)
  (Q:∀a cs g,a∈l->Nw h g->E P g a cs->cs.length=2->∃o,dK qH f [.agg (V.ofList cs)] g=D (K (p a)) o/\Nw g o):
  ∃h',qK [v,f] h=D (Y U (gK (l.findIdx? p))) h'/\Nw h h':=by
 rw[VH]
 suffices T:aX e! [.tmp 4] (λr h'=>r=Y U (gK (l.findIdx? p))/\Nw h h') (qJ (T.set (some f) (b! 1) (T.set (some v) (b! 0) T.nil)) h) by
  obtain⟨r,h',e,rfl,c⟩:=T;exact⟨h',e,c⟩
 simp(disch:=omega)only[vvB,a!,reduceCtorEq,↓reduceIte,qJ,EQ,EP,r.len,EY];refine Oc.then (dS (σ:=Unit) (n:=l.length) (pi:=8) (pn:=7) (pc:=9) [0,1] (λ_=> [v,f]) (λk _ g=>Nw h g/\(l.take k).findIdx? p=none)
  (A:=λfr g=>Nw h g/\l.findIdx? p=none) (B:=λfr g=>fr.get (b! 4)=some (Y U (gK (l.findIdx? p)))/\Nw h g) (s:=())
  (λfr h _ k e1 e2=>by simp only[vvB,a!,reduceCtorEq,↓reduceIte,EO,e1,e2]) (λfr h k _ e1=>by simp(disch:=omega)only[vvB,a!,reduceCtorEq,↓reduceIte,EK,e1]) (by decide) (by rw[dW];omega) (qK0) (qK0) (by simp only[Fa,vvB,a!,reduceCtorEq,↓reduceIte,and_self]) ⟨Nw.refl _,by simp⟩ ?_ ?_) ?_ ?_
 ·intro k _ fr g S m J y t;obtain⟨f0,f1,-⟩:=y;obtain⟨c,b⟩:=t;obtain⟨x,j⟩:∃x,l[k]?=some x:=⟨_,c! S⟩
  obtain⟨i,q,cs,e1,ex,M,hi,-,-,z⟩:=(r.nw L c).elt j;obtain⟨o,C,w⟩:=Q x cs g (h! j) c ex M;have G:=z g rfl;simp(disch:=omega)only[vvB,a!,reduceCtorEq,↓reduceIte,EN,EM,f0,f1,m,e1,G,C];by_cases u:p x=true
  ·simp only[vvB,a!,reduceCtorEq,↓reduceIte,u,EL,m];refine⟨?_,c.trans w⟩;simp only[vvB,a!,reduceCtorEq,↓reduceIte];rw[o8 j b u];rfl
  ·have d:p x=false:=by simpa using u
   simp only[vvB,a!,reduceCtorEq,↓reduceIte,d];refine⟨qK2 m,qK2 J,(),by simp only[Fa,vvB,a!,reduceCtorEq,↓reduceIte,f0,f1,and_self],c.trans w,?_⟩;rw[j!,j];simp[i!,b,d]
 ·intro _ fr g y t;obtain⟨c,b⟩:=t;rw[k!]at b;exact⟨c,b⟩
 ·rintro fr g ⟨c,b⟩;simp only[vvB,a!,reduceCtorEq,↓reduceIte,EJ];exact aX.ret (qT0) ⟨by rw[b];rfl,c⟩
 ·rintro fr g ⟨I,c⟩;exact aX.ret (qT1 I) ⟨rfl,c⟩
theorem abP{α:Type}{P:Pos->Prop}{E:El α}{h:Hp}{v f:V}{l:List α}(r:Rws P E 10 h v l)(L:E.Stable)(p:α->Bool)(W:l.length<=1000000000)
  (Q:∀a cs g,a∈l->Nw h g->E P g a cs->cs.length=10->∃o,dK nY f [.agg (V.ofList cs)] g=D (K (p a)) o/\Nw g o):
  ∃h',kL [v,f] h=D (Y U (gK (l.findIdx? p))) h'/\Nw h h':=by
 rw[SK]
 suffices T:aX e! [.tmp 4] (λr h'=>r=Y U (gK (l.findIdx? p))/\Nw h h') (nZ (T.set (some f) (b! 1) (T.set (some v) (b! 0) T.nil)) h) by
  obtain⟨r,h',e,rfl,c⟩:=T;exact⟨h',e,c⟩
 simp(disch:=omega)only[vvB,a!,reduceCtorEq,↓reduceIte,nZ,BF,BD,r.len,BI];refine Oc.then (dS (σ:=Unit) (n:=l.length) (pi:=8) (pn:=7) (pc:=9) [0,1] (λ_=> [v,f]) (λk _ g=>Nw h g/\(l.take k).findIdx? p=none)
  (A:=λfr g=>Nw h g/\l.findIdx? p=none) (B:=λfr g=>fr.get (b! 4)=some (Y U (gK (l.findIdx? p)))/\Nw h g) (s:=())
  (λfr h _ k e1 e2=>by simp only[vvB,a!,reduceCtorEq,↓reduceIte,BA,e1,e2]) (λfr h k _ e1=>by simp(disch:=omega)only[vvB,a!,reduceCtorEq,↓reduceIte,Bo,e1]) (by decide) (by rw[dW];omega) (qK0) (qK0) (by simp only[Fa,vvB,a!,reduceCtorEq,↓reduceIte,and_self]) ⟨Nw.refl _,by simp⟩ ?_ ?_) ?_ ?_
 ·intro k _ fr g S m J y t;obtain⟨f0,f1,-⟩:=y;obtain⟨c,b⟩:=t;obtain⟨x,j⟩:∃x,l[k]?=some x:=⟨_,c! S⟩
  obtain⟨i,q,cs,e1,ex,M,hi,-,-,z⟩:=(r.nw L c).elt j;obtain⟨o,C,w⟩:=Q x cs g (h! j) c ex M;have G:=z g rfl;simp(disch:=omega)only[vvB,a!,reduceCtorEq,↓reduceIte,Bz,Bv,f0,f1,m,e1,G,C];by_cases u:p x=true
  ·simp only[vvB,a!,reduceCtorEq,↓reduceIte,u,Bq,m];refine⟨?_,c.trans w⟩;simp only[vvB,a!,reduceCtorEq,↓reduceIte];rw[o8 j b u];rfl
  ·have d:p x=false:=by simpa using u
   simp only[vvB,a!,reduceCtorEq,↓reduceIte,d];refine⟨qK2 m,qK2 J,(),by simp only[Fa,vvB,a!,reduceCtorEq,↓reduceIte,f0,f1,and_self],c.trans w,?_⟩;rw[j!,j];simp[i!,b,d]
 ·intro _ fr g y t;obtain⟨c,b⟩:=t;rw[k!]at b;exact⟨c,b⟩
 ·rintro fr g ⟨c,b⟩;simp only[vvB,a!,reduceCtorEq,↓reduceIte,Bl];exact aX.ret (qT0) ⟨by rw[b];rfl,c⟩
 ·rintro fr g ⟨I,c⟩;exact aX.ret (qT1 I) ⟨rfl,c⟩
theorem afa{α:Type}{P:Pos->Prop}{E:El α}{h:Hp}{v f:V}{l:List α}(r:Rws P E 9 h v l)(L:E.Stable)(p:α->Bool)(W:l.length<=1000000000)
  (Q:∀a cs g,a∈l->Nw h g->E P g a cs->cs.length=9->∃o,dK x9 f [.agg (V.ofList cs)] g=D (K (p a)) o/\Nw g o):
  ∃h',mV [v,f] h=D (Y U (gK (l.findIdx? p))) h'/\Nw h h':=by
 rw[VG]
 suffices T:aX e! [.tmp 4] (λr h'=>r=Y U (gK (l.findIdx? p))/\Nw h h') (qI (T.set (some f) (b! 1) (T.set (some v) (b! 0) T.nil)) h) by
  obtain⟨r,h',e,rfl,c⟩:=T;exact⟨h',e,c⟩
 simp(disch:=omega)only[vvB,a!,reduceCtorEq,↓reduceIte,qI,EI,EH,r.len,EX];refine Oc.then (dS (σ:=Unit) (n:=l.length) (pi:=8) (pn:=7) (pc:=9) [0,1] (λ_=> [v,f]) (λk _ g=>Nw h g/\(l.take k).findIdx? p=none)
  (A:=λfr g=>Nw h g/\l.findIdx? p=none) (B:=λfr g=>fr.get (b! 4)=some (Y U (gK (l.findIdx? p)))/\Nw h g) (s:=())
  (λfr h _ k e1 e2=>by simp only[vvB,a!,reduceCtorEq,↓reduceIte,EG,e1,e2]) (λfr h k _ e1=>by simp(disch:=omega)only[vvB,a!,reduceCtorEq,↓reduceIte,Ez,e1]) (by decide) (by rw[dW];omega) (qK0) (qK0) (by simp only[Fa,vvB,a!,reduceCtorEq,↓reduceIte,and_self]) ⟨Nw.refl _,by simp⟩ ?_ ?_) ?_ ?_
 ·intro k _ fr g S m J y t;obtain⟨f0,f1,-⟩:=y;obtain⟨c,b⟩:=t;obtain⟨x,j⟩:∃x,l[k]?=some x:=⟨_,c! S⟩
  obtain⟨i,q,cs,e1,ex,M,hi,-,-,z⟩:=(r.nw L c).elt j;obtain⟨o,C,w⟩:=Q x cs g (h! j) c ex M;have G:=z g rfl;simp(disch:=omega)only[vvB,a!,reduceCtorEq,↓reduceIte,EF,ED,f0,f1,m,e1,G,C];by_cases u:p x=true
  ·simp only[vvB,a!,reduceCtorEq,↓reduceIte,u,EC,m];refine⟨?_,c.trans w⟩;simp only[vvB,a!,reduceCtorEq,↓reduceIte];rw[o8 j b u];rfl
  ·have d:p x=false:=by simpa using u
   simp only[vvB,a!,reduceCtorEq,↓reduceIte,d];refine⟨qK2 m,qK2 J,(),by simp only[Fa,vvB,a!,reduceCtorEq,↓reduceIte,f0,f1,and_self],c.trans w,?_⟩;rw[j!,j];simp[i!,b,d]
 ·intro _ fr g y t;obtain⟨c,b⟩:=t;rw[k!]at b;exact⟨c,b⟩
 ·rintro fr g ⟨c,b⟩;simp only[vvB,a!,reduceCtorEq,↓reduceIte,Ey];exact aX.ret (qT0) ⟨by rw[b];rfl,c⟩
 ·rintro fr g ⟨I,c⟩;exact aX.ret (qT1 I) ⟨rfl,c⟩
theorem MZ{α:Type}{P:Pos->Prop}{E:El α}{h:Hp}{v f:V}{l:List α}(r:Rws P E 1 h v l)(e:E.Stable)(p:α->Bool)(j:l.length<=1000000000)
  (i:∀a x g,a∈l->Nw h g->E P g a [x]->∃b,dK oU f [x] g=D (K (p a)) b/\Nw g b):
  ∃h',jb [v,f] h=D (K (l.any p)) h'/\Nw h h':=by
 obtain⟨d,e1,c⟩:=aj3 r e p j i;rw[Tc];simp(disch:=omega)only[vvB,a!,reduceCtorEq,↓reduceIte,wQ,Dp,Dn,e1];exact⟨d,by simp only[aU,bW,vvB,a!,reduceCtorEq,↓reduceIte,bZ];rw[DU],c⟩
theorem aen{α:Type}{P:Pos->Prop}{E:El α}{h:Hp}{v f:V}{l:List α}(r:Rws P E 6 h v l)(e:E.Stable)(p:α->Bool)(j:l.length<=1000000000)
  (i:∀a cs g,a∈l->Nw h g->E P g a cs->cs.length=6->∃b,dK jT f [.agg (V.ofList cs)] g=D (K (p a)) b/\Nw g b):
  ∃h',lI [v,f] h=D (K (l.any p)) h'/\Nw h h':=by
 obtain⟨d,e1,c⟩:=yD r e p j i;rw[Td];simp(disch:=omega)only[vvB,a!,reduceCtorEq,↓reduceIte,wR,Dt,Dq,e1];exact⟨d,by simp only[aU,bW,vvB,a!,reduceCtorEq,↓reduceIte,bZ];rw[DU],c⟩
theorem abZ{α:Type}{P:Pos->Prop}{E:El α}{h:Hp}{v f:V}{l:List α}(r:Rws P E 8 h v l)(e:E.Stable)(p:α->Bool)(j:l.length<=1000000000)
  (i:∀a cs g,a∈l->Nw h g->E P g a cs->cs.length=8->∃b,dK kK f [.agg (V.ofList cs)] g=D (K (p a)) b/\Nw g b):
  ∃h',oq [v,f] h=D (K (l.any p)) h'/\Nw h h':=by
 obtain⟨d,e1,c⟩:=D6 r e p j i;rw[SL];simp(disch:=omega)only[vvB,a!,reduceCtorEq,↓reduceIte,uS,BH,BG,e1];exact⟨d,by simp only[aU,bW,vvB,a!,reduceCtorEq,↓reduceIte,bZ];rw[DU],c⟩
theorem XL{α:Type}{P:Pos->Prop}{E:El α}{h:Hp}{v f:V}{l:List α}(r:Rws P E 1 h v l)(e:E.Stable)(p:α->Bool)(j:l.length<=1000000000)
  (i:∀a x g,a∈l->Nw h g->E P g a [x]->∃b,dK pz f [x] g=D (K (p a)) b/\Nw g b):
  ∃h',mM [v,f] h=D (K (l.any p)) h'/\Nw h h':=by
 obtain⟨d,e1,c⟩:=ac1 r e p j i;rw[NV];simp(disch:=omega)only[vvB,a!,reduceCtorEq,↓reduceIte,qV,yQ,yP,e1];exact⟨d,by simp only[aU,bW,vvB,a!,reduceCtorEq,↓reduceIte,bZ];rw[DU],c⟩
theorem aag{α:Type}{P:Pos->Prop}{E:El α}{h:Hp}{v f:V}{l:List α}(r:Rws P E 2 h v l)(e:E.Stable)(p:α->Bool)(j:l.length<=1000000000)
  (i:∀a cs g,a∈l->Nw h g->E P g a cs->cs.length=2->∃b,dK qH f [.agg (V.ofList cs)] g=D (K (p a)) b/\Nw g b):
  ∃h',nM [v,f] h=D (K (l.any p)) h'/\Nw h h':=by
 obtain⟨d,e1,c⟩:=afb r e p j i;rw[O5];simp(disch:=omega)only[vvB,a!,reduceCtorEq,↓reduceIte,ug,zV,zU,e1];exact⟨d,by simp only[aU,bW,vvB,a!,reduceCtorEq,↓reduceIte,bZ];rw[DU],c⟩
theorem ao7{h:Hp}{f:Bool}{im:Pos}{a:List (List V)}{rest:List V}{i:Nat}(z:Kn h im (O (N 40 f) (a.flatten++rest)))(m:∀c∈a,c.length=8)(hi:i<a.length)(L:a.length<=1000000):
  ∃h' b,y8 [.slice im 0 a.length (.un 8),Y U (i:Int),Y U ((i:Int)+1)] h=D (.slice im 0 (a.length - 1) (.un 8)) h'/\Kn h' im (O (N 40 f) ((a.eraseIdx i).flatten++b))/\Ch (λj=>j=im) h h':=by
 obtain⟨x,J,mid,E,a1,v,t,o⟩:=ajB (bt:=104) z m (by omega) hi;have l:∀c∈a.eraseIdx i,c.length=8:=λc s=>m c (v! s);have e:(a.eraseIdx i).flatten.length=(a.length - 1)*8:=by rw[gW l,u! hi]
 obtain⟨y,r,u,s2,I,w,p⟩:=anX (zs:= [(Y U 0),(Y U 0),(H []),(Y U 0),.aQ,.aQ,(Y U 0),(Y U 0)]) v e t rfl (by omega);have d:((a.length - 1:Nat):Int)+1=(a.length:Int):=by omega
 rw[d]at s2;have C:eY 8 (.slice im 0 a.length (.un 8)) (some (Y U (i:Int))) (some (Y U ((i:Int)+1))) (some (Y U (a.length:Int))) h=D (.slice im (moved 8 0 i a.length) (i+1 - i) (.kn (a.length - i))) h:=by
  show(match o! a.length a.length,o! (i+1) a.length,o! i (i+1) with
   |true,true,true=>dY (moved 8 0 i a.length) λq=>dY (i+1 - i) λn=>R.ok (V.slice im q n (.kn (a.length - i))) h
   |_,_,_=>.bad)=_
  rw[d! (g! _),d! (show i+1<=a.length from hi),d! (C! i)];simp only[dF]
 have G:eY 8 (.slice im 0 a.length (.un 8)) none (some (Y U (i:Int))) none h=D (.slice im 0 i (.un 8)) h:=by
  show(match o! i a.length,o! 0 i,Nat.beq 8 8 with
     |true,true,true=>R.ok (V.slice im 0 i (.un 8)) h
     |_,_,_=>R.bad)=_
  rw[d! (A! hi),d! (r! i)]
 have k:((i:Int)=(i:Int)+1)=False:=eq_false (by omega);have B:∀(n:Nat) (g:Hp),aZ 2 (.slice im 0 n (.un 8)) g=D (Y U (n:Int)) g:=λ_ _=>rfl;rw[aei];simp(disch:=omega)only[vvB,a!,reduceCtorEq,↓reduceIte,G6,Oh,Og,Oe,Oa,N8,N7,NZ,B,C,k,G,E,a1,s2,I];exact⟨r,[(Y U 0),(Y U 0),(H []),(Y U 0),.aQ,.aQ,(Y U 0),(Y U 0)]++rest,by simp only[aU,bW,vvB,a!,reduceCtorEq,↓reduceIte,bZ]<;>rfl,w,o.trans p λ_ _ q=>q⟩
theorem aiF{h:Hp}{f:Bool}{im:Pos}{a:List (List V)}{rest:List V}{i:Nat}(z:Kn h im (O (N 248 f) (a.flatten++rest)))(m:∀c∈a,c.length=3)(hi:i<a.length)(L:a.length<=1000000):
  ∃h' b,kN [.slice im 0 a.length (.un 3),Y U (i:Int),Y U ((i:Int)+1)] h=D (.slice im 0 (a.length - 1) (.un 3)) h'/\Kn h' im (O (N 248 f) ((a.eraseIdx i).flatten++b))/\Ch (λj=>j=im) h h':=by
 obtain⟨x,J,mid,E,a1,v,t,o⟩:=ajB (bt:=24) z m (by omega) hi;have l:∀c∈a.eraseIdx i,c.length=3:=λc s=>m c (v! s);have e:(a.eraseIdx i).flatten.length=(a.length - 1)*3:=by rw[gW l,u! hi]
 obtain⟨y,r,u,s2,I,w,p⟩:=anX (zs:= [(Y U 0),(Y U 0),.bP]) v e t rfl (by omega);have d:((a.length - 1:Nat):Int)+1=(a.length:Int):=by omega
 rw[d]at s2;have C:eY 3 (.slice im 0 a.length (.un 3)) (some (Y U (i:Int))) (some (Y U ((i:Int)+1))) (some (Y U (a.length:Int))) h=D (.slice im (moved 3 0 i a.length) (i+1 - i) (.kn (a.length - i))) h:=by
  show(match o! a.length a.length,o! (i+1) a.length,o! i (i+1) with
   |true,true,true=>dY (moved 3 0 i a.length) λq=>dY (i+1 - i) λn=>R.ok (V.slice im q n (.kn (a.length - i))) h
   |_,_,_=>.bad)=_
  rw[d! (g! _),d! (show i+1<=a.length from hi),d! (C! i)];simp only[dF]
 have G:eY 3 (.slice im 0 a.length (.un 3)) none (some (Y U (i:Int))) none h=D (.slice im 0 i (.un 3)) h:=by
  show(match o! i a.length,o! 0 i,Nat.beq 3 3 with
     |true,true,true=>R.ok (V.slice im 0 i (.un 3)) h
     |_,_,_=>R.bad)=_
  rw[d! (A! hi),d! (r! i)]
 have k:((i:Int)=(i:Int)+1)=False:=eq_false (by omega);have B:∀(n:Nat) (g:Hp),aZ 2 (.slice im 0 n (.un 3)) g=D (Y U (n:Int)) g:=λ_ _=>rfl;rw[XH];simp(disch:=omega)only[vvB,a!,reduceCtorEq,↓reduceIte,Ah,GH,Gz,Gy,Gx,Gw,Gv,Gu,B,C,k,G,E,a1,s2,I];exact⟨r,[(Y U 0),(Y U 0),.bP]++rest,by simp only[aU,bW,vvB,a!,reduceCtorEq,↓reduceIte,bZ]<;>rfl,w,o.trans p λ_ _ q=>q⟩
theorem ao9(x:Int)(h:Hp):mD [iV x] h=D (K false) h:=by
 rw[SN];simp only[vvB,a!,reduceCtorEq,↓reduceIte,DR,GX,GV,decide_false,not_true];simp only[aU,bW,vvB,a!,reduceCtorEq,↓reduceIte,bZ]
theorem aeo(x y:Int)(h:Hp):Ip [iV x,iV y] h=D (K (ltI x y)) h:=by
 rw[alA];simp only[vvB,a!,reduceCtorEq,↓reduceIte,Si,Xx,Xw,ao9];simp only[aU,bW,vvB,a!,reduceCtorEq,↓reduceIte,bZ]<;>rfl
theorem abO{h:Hp}{i:Pos}{f:Bool}{l:List Int}(W:Kn h i (O (N 3 f) (l.map iV)))(hn:l.length<=1000):
  ∃u h',gQ [.slice i 0 l.length (.un 1),Y U 0,Y U (l.length:Int)] h=D u h'/\Kn h' i (O (N 3 f) ((iC ltI l.length l).map iV))/\Ch (λj=>j=i) h h':=by
 rw[qP]
 suffices T:aX e! [] (λu h'=>Kn h' i (O (N 3 f) ((iC ltI l.length l).map iV))/\Ch (λj=>j=i) h h') (fG (T.set (some (Y U (l.length:Int))) (b! 2) (T.set (some (Y U 0)) (b! 1) (T.set (some (.slice i 0 l.length (.un 1))) (b! 0) T.nil))) h) by
  obtain⟨u,h',e,q⟩:=T;exact⟨u,h',e,q⟩
 by_cases hz:l.length=0
 ·simp(disch:=omega)only[vvB,a!,reduceCtorEq,↓reduceIte,fG,jy];refine Oc.out (dZ (n:=0) (λm fr g=>fr.get (b! 6)=some (Y U 1)/\fr.get (b! 2)=some (Y U (l.length:Int))/\g=h) (A:=λfr g=>g=h) (B:=λ_ _=>False) (by rw[dW];omega) ⟨qK1,qK0,rfl⟩ ?_) ?_ ?_
  ·rintro m fr g ⟨b,f2,rfl⟩;simp(disch:=omega)only[vvB,a!,reduceCtorEq,↓reduceIte,iE,iD,b,f2];exact⟨rfl,rfl⟩
  ·rintro fr g rfl;refine aX.nor (qT0) ⟨?_,Ch.refl _ _⟩;rw[hz];exact W
  ·intro fr g q;exact q.elim
 have L:∀{g:Hp} {m:List Int} {j:Nat} {x:Int},Kn g i (O (N 3 f) (m.map iV))->m[j]?=some x->aF (X i j) g=D (iV x) g:=λk e=>k.ld (by rw[x!,e];rfl);have St:∀{g:Hp} {m:List Int} {j:Nat} (x:Int),Kn g i (O (N 3 f) (m.map iV))->j<m.length->aT 1 (X i j) (iV x) g=D V.undef (g.put i (some (O (N 3 f) ((m.set j x).map iV)))):=λ{g m j} x k e=>by
  rw[k.st ⟨rfl,rfl⟩ (by rw[t!];exact e),z!]
 have E:∀(g:Hp) (j:Nat),j<l.length->bJ 1 (.slice i 0 l.length (.un 1)) (Y U (j:Int)) g=D (X i j) g:=λg j e=>by rw[xQ e,q!,B!]
 simp(disch:=omega)only[vvB,a!,reduceCtorEq,↓reduceIte,fG,jy];refine Oc.out (dZ (n:=l.length - 1) (λm fr g=>∃k:Nat,1<=k/\k+m=l.length/\fr.get (b! 6)=some (Y U (k:Int))/\fr.get (b! 2)=some (Y U (l.length:Int))/\fr.get (b! 1)=some (Y U 0)/\fr.get (b! 0)=some (.slice i 0 l.length (.un 1))/\
   Kn g i (O (N 3 f) ((iC ltI k l).map iV))/\Ch (λj=>j=i) h g) (A:=λfr g=>Kn g i (O (N 3 f) ((iC ltI l.length l).map iV))/\Ch (λj=>j=i) h g) (B:=λ_ _=>False) (by rw[dW];omega) ?_ ?_) ?_ ?_
 ·exact⟨1,by omega,by omega,qK1,qK0,qK0,qK0,W,Ch.refl _ _⟩
 ·rintro m fr g ⟨k,h1,hk,b,f2,f1,f0,a,d⟩;by_cases hm:m=0
  ·simp(disch:=omega)only[vvB,a!,reduceCtorEq,↓reduceIte,iE,iD,b,f2];rw[show k=l.length by omega]at a;exact⟨rfl,a,d⟩
  simp(disch:=omega)only[vvB,a!,reduceCtorEq,↓reduceIte,iE,iD,rW,b,f2];refine Oc.out (Q:=λo=>LS _ _ _ _ (qF (BK 1 o) kZ)) (dZ (n:=k) (λj fr g=>∃t:List Int,t.length=l.length/\YS ltI j t=iC ltI (k+1) l/\fr.get (b! 7)=some (Y U (j:Int))/\fr.get (b! 6)=some (Y U (k:Int))/\fr.get (b! 2)=some (Y U (l.length:Int))/\fr.get (b! 1)=some (Y U 0)/\fr.get (b! 0)=some (.slice i 0 l.length (.un 1))/\
   Kn g i (O (N 3 f) (t.map iV))/\Ch (λj=>j=i) h g/\j<l.length) (A:=λfr g=>fr.get (b! 6)=some (Y U (k:Int))/\fr.get (b! 2)=some (Y U (l.length:Int))/\fr.get (b! 1)=some (Y U 0)/\fr.get (b! 0)=some (.slice i 0 l.length (.un 1))/\Kn g i (O (N 3 f) ((iC ltI (k+1) l).map iV))/\Ch (λj=>j=i) h g) (B:=λ_ _=>False) (by rw[dW];omega) ?_ ?_) ?_ ?_
  ·exact⟨iC ltI k l,AB _ _ _,rfl,qK0,qK2 b,qK2 f2,qK2 f1,qK2 f0,a,d,by omega⟩
  ·rintro j fr g ⟨t,ht,hb,w,b,f2,f1,f0,a,d,hj⟩;cases j with
   |zero=>
    simp(disch:=omega)only[vvB,a!,reduceCtorEq,↓reduceIte,jB,jv,w,f1,y!];exact⟨rfl,qK2 b,qK2 f2,qK2 f1,qK2 f0,by rw[<-hb];exact a,d⟩
   |succ j=>
    obtain⟨x,M⟩:∃x,t[j+1]?=some x:=⟨_,c! (by omega)⟩
    obtain⟨y,P⟩:∃y,t[j]?=some y:=⟨_,c! (by omega)⟩
    have c:((j+1:Nat):Int) - 1=(j:Int):=by omega
    have C:=λg=>E g (j+1) hj;have z:=λg=>E g j (by omega);have I:=L a M;have G:=L a P;unfold YS at hb;rw[M,P]at hb;by_cases r:ltI x y=true
    ·obtain⟨v,p⟩:∃v,v=g.put i (some (O (N 3 f) ((t.set (j+1) y).map iV))):=⟨_,rfl⟩
     have J:=St (j:=j+1) y a (by omega);rw[<-p]at J;have Z:Kn v i (O (N 3 f) ((t.set (j+1) y).map iV)):=by rw[p];exact a.put _
     have c1:Ch (λj=>j=i) g v:=by rw[p];exact Ch.put _ _ rfl
     have S2:=St (j:=j) x Z (by simp;omega);simp(disch:=omega)only[vvB,a!,reduceCtorEq,↓reduceIte,jB,jv,rV,rU,w,f1,f0,c,C,z,I,G,aeo,r,J,S2];simp only[r]at hb;exact⟨j,by omega,(t.set (j+1) y).set j x,by simp[ht],hb,qK0,qK2 b,qK2 f2,qK2 f1,qK2 f0,Z.put _,(d.trans c1 λ_ _ q=>q).trans (Ch.put (S:=λj=>j=i) _ _ rfl) λ_ _ q=>q,by omega⟩
    ·have s:ltI x y=false:=by simpa using r
     simp(disch:=omega)only[vvB,a!,reduceCtorEq,↓reduceIte,jB,jv,w,f1,f0,c,C,z,I,G,aeo,s];simp only[s]at hb;exact⟨rfl,qK2 b,qK2 f2,qK2 f1,qK2 f0,by rw[<-hb];exact a,d⟩
  ·rintro fr g ⟨b,f2,f1,f0,a,d⟩;simp(disch:=omega)only[vvB,a!,reduceCtorEq,↓reduceIte,kZ,b];exact⟨m - 1,by omega,k+1,by omega,by omega,qK1,qK2 f2,qK2 f1,qK2 f0,a,d⟩
  ·intro fr g q;exact q.elim
 ·rintro fr g ⟨a,d⟩;exact aX.nor (qT0) ⟨a,d⟩
 ·intro fr g q;exact q.elim
theorem afw{h h':Hp}{v u:V}{n:Nat}(hl:aZ 2 v h=D (Y U (n:Int)) h)(f:n<=12)(e:gQ [v,Y U 0,Y U (n:Int)] h=D u h'):nT [v] h=D V.undef h':=by
 obtain⟨k,b,-⟩:=UF h (n:=n) (by omega);have cu:kT .u64 (Y U (n:Int)) h=D (Y .u64 (n:Int)) h:=ahv (by omega) (by omega);have d:∃a,nK [v,Y U 0,Y U (n:Int),Y U k] h=D a h':=by
  rw[O4]
  suffices T:aX e! [] (λu g=>g=h') (nJ (T.set (some (Y U k)) (b! 3) (T.set (some (Y U (n:Int))) (b! 2) (T.set (some (Y U 0)) (b! 1) (T.set (some v) (b! 0) T.nil)))) h) by
   obtain⟨u,g,e2,rfl⟩:=T;exact⟨u,e2⟩
  simp(disch:=omega)only[vvB,a!,reduceCtorEq,↓reduceIte,nJ,zM,zL];refine Oc.out (dZ (n:=0) (λm fr g=>fr.get (b! 0)=some v/\fr.get (b! 1)=some (Y U 0)/\fr.get (b! 2)=some (Y U (n:Int))/\g=h) (A:=λ_ _=>False) (B:=λfr g=>g=h') (by rw[dW];omega) ⟨qK0,qK0,qK0,rfl⟩ ?_) ?_ ?_
  ·rintro m fr g ⟨f0,f1,f2,rfl⟩;simp(disch:=omega)only[vvB,a!,reduceCtorEq,↓reduceIte,Am,zK,zJ,zI,f0,f1,f2,p!,e];rfl
  ·intro fr g q;exact q.elim
  ·rintro fr g rfl;exact aX.ret (qT0) rfl
 obtain⟨a,c⟩:=d;rw[aly];simp(disch:=omega)only[vvB,a!,reduceCtorEq,↓reduceIte,RY,Xm,Xl,hl,cu,b,c];rfl
theorem afx{h:Hp}{v:V}(hl:aZ 2 v h=D (Y U 0) h):nT [v] h=D V.undef h:=by
 have key:∃u,gQ [v,Y U 0,Y U ((0:Nat):Int)] h=D u h:=by
  rw[qP]
  suffices T:aX e! [] (λu h'=>h'=h) (fG (T.set (some (Y U ((0:Nat):Int))) (b! 2) (T.set (some (Y U 0)) (b! 1) (T.set (some v) (b! 0) T.nil))) h) by
   obtain⟨u,h',e,rfl⟩:=T;exact⟨u,e⟩
  simp(disch:=omega)only[vvB,a!,reduceCtorEq,↓reduceIte,fG,jy];refine Oc.out (dZ (n:=0) (λm fr g=>fr.get (b! 6)=some (Y U 1)/\fr.get (b! 2)=some (Y U ((0:Nat):Int))/\g=h) (A:=λfr g=>g=h) (B:=λ_ _=>False) (by rw[dW];omega) ⟨qK1,qK0,rfl⟩ ?_) ?_ ?_
  ·rintro m fr g ⟨a,f2,rfl⟩;simp(disch:=omega)only[vvB,a!,reduceCtorEq,↓reduceIte,iE,iD,a,f2];exact⟨rfl,rfl⟩
  ·rintro fr g rfl;exact aX.nor (qT0) rfl
  ·intro fr g q;exact q.elim
 obtain⟨u,e⟩:=key;exact afw (n:=0) hl (r! _) e
theorem ajZ{h:Hp}{b:Nat}{P:Pos->Prop}{v:V}{l:List Int}(r:dH b P (flat gV) 3 1 h v l)(k:l.length<=12):
  ∃h',nT [v] h=D V.undef h'/\dH b P (flat gV) 3 1 h' v (iC ltI l.length l)/\Ch (λj=>bH v=some j) h h':=by
 have hl:=r.len h;by_cases a:l= []
 ·subst a;exact⟨h,afx hl,r,Ch.refl _ _⟩
 ·obtain⟨i,f,rfl,hb,d⟩:=r.open a;have e1:(l.map gV).flatten=l.map iV:=ajy l;rw[e1]at d;obtain⟨u,h',e,m,g⟩:=abO d (by omega);refine⟨h',afw hl k e,?_,g.mono λj _ q=>by rw[q];rfl⟩;have:=dH.mk (P:=P) (b:=b) (c:=gV) (w:=1) (el:=3) (f:=f) (l:=iC ltI l.length l) (λ_=>rfl) hb (by rw[show((iC ltI l.length l).map gV).flatten=(iC ltI l.length l).map iV from ajy _];exact m)
  rw[AB]at this;exact this
theorem abM{h:Hp}{v:V}{P:Pos->Prop}{E:El Int}{l:List Int}(r:Rws P E 1 h v l)(a:l.length<=1):ou [v] h=D v h:=by
 rw[MR];simp(disch:=omega)only[vvB,a!,reduceCtorEq,↓reduceIte,sU,BO,BN,Om,r.len];simp only[aU,bW,vvB,a!,reduceCtorEq,↓reduceIte,bZ]<;>rfl
theorem ao8{h:Hp}{v:V}{P:Pos->Prop}{l:List Int}(r:Rws P (flat gV) 1 h v l)(hl:l.length<=1000)(E:∀(k:Nat) x y,l[k]?=some x->l[k+1]?=some y->x≠y):ou [v] h=D v h:=by
 by_cases z:l.length<=1
 ·exact abM r z
 rw[MR]
 suffices T:aX e! [.tmp 2] (λw h'=>w=v/\h'=h) (sU (T.set (some v) (b! 0) T.nil) h) by
  obtain⟨w,h',e,rfl,rfl⟩:=T;exact e
 simp(disch:=omega)only[vvB,a!,reduceCtorEq,↓reduceIte,sU,BO,BN,Ol,r.len];refine Oc.then (dZ (n:=l.length - 1) (λm fr g=>∃k:Nat,k+1+m=l.length/\fr.get (b! 0)=some v/\fr.get (b! 3)=some (Y U ((k:Int)+1))/\g=h) (A:=λfr g=>fr.get (b! 0)=some v/\g=h) (B:=λ_ _=>False) (by rw[dW];omega) ⟨0,by omega,qK0,qK1,rfl⟩ ?_) ?_ ?_
 ·rintro m fr g ⟨k,G,f0,f3,rfl⟩;by_cases I:m=0
  ·simp(disch:=omega)only[vvB,a!,reduceCtorEq,↓reduceIte,CO,BM,f0,f3,r.len];exact⟨rfl,qK2 f0,rfl⟩
  ·obtain⟨x,f⟩:∃x,l[k]?=some x:=⟨_,c! (by omega)⟩
   obtain⟨y,j⟩:∃y,l[k+1]?=some y:=⟨_,c! (by omega)⟩
   obtain⟨i,q,cs,e1,ex,-,-,-,e2,-⟩:=r.elt f;obtain rfl:cs=gV x:=ex;obtain⟨i',o,a,b,u,-,-,-,c,-⟩:=r.elt j;obtain rfl:a=gV y:=u;have s:aF (X i q) g=D (iV x) g:=e2 g rfl 0 _ rfl;have t:aF (X i' o) g=D (iV y) g:=c g rfl 0 _ rfl;have p:∀g,bJ 1 v (Y U ((k:Int)+1)) g=D (X i' o) g:=λg=>b g;have C:(k:Int)+1 - 1=(k:Int):=by omega
   have d:(y=x)=False:=eq_false λe=>E k x y f j e.symm;simp(disch:=omega)only[vvB,a!,reduceCtorEq,↓reduceIte,CO,BM,Oi,Oj,f0,f3,r.len,p,t,C,e1,s,d];exact⟨m - 1,by omega,k+1,by omega,qK2 f0,qK1,rfl⟩
 ·rintro fr g ⟨f0,rfl⟩;simp(disch:=omega)only[vvB,a!,reduceCtorEq,↓reduceIte,Mc,f0];exact aX.ret (qT0) ⟨rfl,rfl⟩
 ·intro fr g q;exact q.elim
theorem aiH(x:(List Nat))(h:Hp):qE [H x] h=D (K false) h:=by
 rw[abY];simp only[vvB,a!,reduceCtorEq,↓reduceIte,D9,MC,MB,decide_false,not_true];simp only[aU,bW,vvB,a!,reduceCtorEq,↓reduceIte,bZ]
theorem Uu(x y:(List Nat))(h:Hp):zf [H x,H y] h=D (K (kP x y)) h:=by
 rw[aej];simp only[vvB,a!,reduceCtorEq,↓reduceIte,G8,Ox,Ov,aiH,aqr];simp only[aU,bW,vvB,a!,reduceCtorEq,↓reduceIte,bZ]<;>rfl
theorem UG{h:Hp}{i:Pos}{f:Bool}{l:List (List Nat)}(W:Kn h i (O (N 9 f) (l.map H)))(hn:l.length<=1000):
  ∃u h',fJ [.slice i 0 l.length (.un 1),Y U 0,Y U (l.length:Int)] h=D u h'/\Kn h' i (O (N 9 f) ((iC kP l.length l).map H))/\Ch (λj=>j=i) h h':=by
 rw[oV]
 suffices T:aX e! [] (λu h'=>Kn h' i (O (N 9 f) ((iC kP l.length l).map H))/\Ch (λj=>j=i) h h') (eX (T.set (some (Y U (l.length:Int))) (b! 2) (T.set (some (Y U 0)) (b! 1) (T.set (some (.slice i 0 l.length (.un 1))) (b! 0) T.nil))) h) by
  obtain⟨u,h',e,q⟩:=T;exact⟨u,h',e,q⟩
 by_cases hz:l.length=0
 ·simp(disch:=omega)only[vvB,a!,reduceCtorEq,↓reduceIte,eX,iP];refine Oc.out (dZ (n:=0) (λm fr g=>fr.get (b! 6)=some (Y U 1)/\fr.get (b! 2)=some (Y U (l.length:Int))/\g=h) (A:=λfr g=>g=h) (B:=λ_ _=>False) (by rw[dW];omega) ⟨qK1,qK0,rfl⟩ ?_) ?_ ?_
  ·rintro m fr g ⟨b,f2,rfl⟩;simp(disch:=omega)only[vvB,a!,reduceCtorEq,↓reduceIte,gJ,gI,b,f2];exact⟨rfl,rfl⟩
  ·rintro fr g rfl;refine aX.nor (qT0) ⟨?_,Ch.refl _ _⟩;rw[hz];exact W
  ·intro fr g q;exact q.elim
 have L:∀{g:Hp} {m:List (List Nat)} {j:Nat} {x:(List Nat)},Kn g i (O (N 9 f) (m.map H))->m[j]?=some x->aF (X i j) g=D (H x) g:=λk e=>k.ld (by rw[x!,e];rfl);have St:∀{g:Hp} {m:List (List Nat)} {j:Nat} (x:(List Nat)),Kn g i (O (N 9 f) (m.map H))->j<m.length->aT 1 (X i j) (H x) g=D V.undef (g.put i (some (O (N 9 f) ((m.set j x).map H)))):=λ{g m j} x k e=>by
  rw[k.st ⟨rfl,rfl⟩ (by rw[t!];exact e),z!]
 have E:∀(g:Hp) (j:Nat),j<l.length->bJ 1 (.slice i 0 l.length (.un 1)) (Y U (j:Int)) g=D (X i j) g:=λg j e=>by rw[xQ e,q!,B!]
 simp(disch:=omega)only[vvB,a!,reduceCtorEq,↓reduceIte,eX,iP];refine Oc.out (dZ (n:=l.length - 1) (λm fr g=>∃k:Nat,1<=k/\k+m=l.length/\fr.get (b! 6)=some (Y U (k:Int))/\fr.get (b! 2)=some (Y U (l.length:Int))/\fr.get (b! 1)=some (Y U 0)/\fr.get (b! 0)=some (.slice i 0 l.length (.un 1))/\
   Kn g i (O (N 9 f) ((iC kP k l).map H))/\Ch (λj=>j=i) h g) (A:=λfr g=>Kn g i (O (N 9 f) ((iC kP l.length l).map H))/\Ch (λj=>j=i) h g) (B:=λ_ _=>False) (by rw[dW];omega) ?_ ?_) ?_ ?_
 ·exact⟨1,by omega,by omega,qK1,qK0,qK0,qK0,W,Ch.refl _ _⟩
 ·rintro m fr g ⟨k,h1,hk,b,f2,f1,f0,a,d⟩;by_cases hm:m=0
  ·simp(disch:=omega)only[vvB,a!,reduceCtorEq,↓reduceIte,gJ,gI,b,f2];rw[show k=l.length by omega]at a;exact⟨rfl,a,d⟩
  simp(disch:=omega)only[vvB,a!,reduceCtorEq,↓reduceIte,gJ,gI,pO,b,f2];refine Oc.out (Q:=λo=>LS _ _ _ _ (qF (BK 1 o) kE)) (dZ (n:=k) (λj fr g=>∃t:List (List Nat),t.length=l.length/\YS kP j t=iC kP (k+1) l/\fr.get (b! 7)=some (Y U (j:Int))/\fr.get (b! 6)=some (Y U (k:Int))/\fr.get (b! 2)=some (Y U (l.length:Int))/\fr.get (b! 1)=some (Y U 0)/\fr.get (b! 0)=some (.slice i 0 l.length (.un 1))/\
   Kn g i (O (N 9 f) (t.map H))/\Ch (λj=>j=i) h g/\j<l.length) (A:=λfr g=>fr.get (b! 6)=some (Y U (k:Int))/\fr.get (b! 2)=some (Y U (l.length:Int))/\fr.get (b! 1)=some (Y U 0)/\fr.get (b! 0)=some (.slice i 0 l.length (.un 1))/\Kn g i (O (N 9 f) ((iC kP (k+1) l).map H))/\Ch (λj=>j=i) h g) (B:=λ_ _=>False) (by rw[dW];omega) ?_ ?_) ?_ ?_
  ·exact⟨iC kP k l,AB _ _ _,rfl,qK0,qK2 b,qK2 f2,qK2 f1,qK2 f0,a,d,by omega⟩
  ·rintro j fr g ⟨t,ht,hb,w,b,f2,f1,f0,a,d,hj⟩;cases j with
   |zero=>
    simp(disch:=omega)only[vvB,a!,reduceCtorEq,↓reduceIte,iQ,iO,w,f1,y!];exact⟨rfl,qK2 b,qK2 f2,qK2 f1,qK2 f0,by rw[<-hb];exact a,d⟩
   |succ j=>
    obtain⟨x,M⟩:∃x,t[j+1]?=some x:=⟨_,c! (by omega)⟩
    obtain⟨y,P⟩:∃y,t[j]?=some y:=⟨_,c! (by omega)⟩
    have c:((j+1:Nat):Int) - 1=(j:Int):=by omega
    have C:=λg=>E g (j+1) hj;have z:=λg=>E g j (by omega);have I:=L a M;have G:=L a P;unfold YS at hb;rw[M,P]at hb;by_cases r:kP x y=true
    ·obtain⟨v,p⟩:∃v,v=g.put i (some (O (N 9 f) ((t.set (j+1) y).map H))):=⟨_,rfl⟩
     have J:=St (j:=j+1) y a (by omega);rw[<-p]at J;have Z:Kn v i (O (N 9 f) ((t.set (j+1) y).map H)):=by rw[p];exact a.put _
     have c1:Ch (λj=>j=i) g v:=by rw[p];exact Ch.put _ _ rfl
     have S2:=St (j:=j) x Z (by simp;omega);simp(disch:=omega)only[vvB,a!,reduceCtorEq,↓reduceIte,iQ,iO,pK,pJ,w,f1,f0,c,C,z,I,G,Uu,r,J,S2];simp only[r]at hb;exact⟨j,by omega,(t.set (j+1) y).set j x,by simp[ht],hb,qK0,qK2 b,qK2 f2,qK2 f1,qK2 f0,Z.put _,(d.trans c1 λ_ _ q=>q).trans (Ch.put (S:=λj=>j=i) _ _ rfl) λ_ _ q=>q,by omega⟩
    ·have s:kP x y=false:=by simpa using r
     simp(disch:=omega)only[vvB,a!,reduceCtorEq,↓reduceIte,iQ,iO,w,f1,f0,c,C,z,I,G,Uu,s];simp only[s]at hb;exact⟨rfl,qK2 b,qK2 f2,qK2 f1,qK2 f0,by rw[<-hb];exact a,d⟩
  ·rintro fr g ⟨b,f2,f1,f0,a,d⟩;simp(disch:=omega)only[vvB,a!,reduceCtorEq,↓reduceIte,kE,b];exact⟨m - 1,by omega,k+1,by omega,by omega,qK1,qK2 f2,qK2 f1,qK2 f0,a,d⟩
  ·intro fr g q;exact q.elim
 ·rintro fr g ⟨a,d⟩;exact aX.nor (qT0) ⟨a,d⟩
 ·intro fr g q;exact q.elim
theorem Wu{h h':Hp}{v u:V}{n:Nat}(hl:aZ 2 v h=D (Y U (n:Int)) h)(f:n<=12)(e:fJ [v,Y U 0,Y U (n:Int)] h=D u h'):lG [v] h=D V.undef h':=by
 obtain⟨k,b,-⟩:=UF h (n:=n) (by omega);have cu:kT .u64 (Y U (n:Int)) h=D (Y .u64 (n:Int)) h:=ahv (by omega) (by omega);have d:∃a,aLm [v,Y U 0,Y U (n:Int),Y U k] h=D a h':=by
  rw[J3]
  suffices T:aX e! [] (λu g=>g=h') (kQ (T.set (some (Y U k)) (b! 3) (T.set (some (Y U (n:Int))) (b! 2) (T.set (some (Y U 0)) (b! 1) (T.set (some v) (b! 0) T.nil)))) h) by
   obtain⟨u,g,e2,rfl⟩:=T;exact⟨u,e2⟩
  simp(disch:=omega)only[vvB,a!,reduceCtorEq,↓reduceIte,kQ,vF,vC];refine Oc.out (dZ (n:=0) (λm fr g=>fr.get (b! 0)=some v/\fr.get (b! 1)=some (Y U 0)/\fr.get (b! 2)=some (Y U (n:Int))/\g=h) (A:=λ_ _=>False) (B:=λfr g=>g=h') (by rw[dW];omega) ⟨qK0,qK0,qK0,rfl⟩ ?_) ?_ ?_
  ·rintro m fr g ⟨f0,f1,f2,rfl⟩;simp(disch:=omega)only[vvB,a!,reduceCtorEq,↓reduceIte,vK,vz,ve,uZ,f0,f1,f2,p!,e];rfl
  ·intro fr g q;exact q.elim
  ·rintro fr g rfl;exact aX.ret (qT0) rfl
 obtain⟨a,c⟩:=d;rw[aeh];simp(disch:=omega)only[vvB,a!,reduceCtorEq,↓reduceIte,G5,NY,NW,hl,cu,b,c];rfl
theorem Wv{h:Hp}{v:V}(hl:aZ 2 v h=D (Y U 0) h):lG [v] h=D V.undef h:=by
 have key:∃u,fJ [v,Y U 0,Y U ((0:Nat):Int)] h=D u h:=by
  rw[oV]
  suffices T:aX e! [] (λu h'=>h'=h) (eX (T.set (some (Y U ((0:Nat):Int))) (b! 2) (T.set (some (Y U 0)) (b! 1) (T.set (some v) (b! 0) T.nil))) h) by
   obtain⟨u,h',e,rfl⟩:=T;exact⟨u,e⟩
  simp(disch:=omega)only[vvB,a!,reduceCtorEq,↓reduceIte,eX,iP];refine Oc.out (dZ (n:=0) (λm fr g=>fr.get (b! 6)=some (Y U 1)/\fr.get (b! 2)=some (Y U ((0:Nat):Int))/\g=h) (A:=λfr g=>g=h) (B:=λ_ _=>False) (by rw[dW];omega) ⟨qK1,qK0,rfl⟩ ?_) ?_ ?_
  ·rintro m fr g ⟨a,f2,rfl⟩;simp(disch:=omega)only[vvB,a!,reduceCtorEq,↓reduceIte,gJ,gI,a,f2];exact⟨rfl,rfl⟩
  ·rintro fr g rfl;exact aX.nor (qT0) rfl
  ·intro fr g q;exact q.elim
 obtain⟨u,e⟩:=key;exact Wu (n:=0) hl (r! _) e
theorem aoO{h:Hp}{b:Nat}{P:Pos->Prop}{v:V}{l:List (List Nat)}(r:dH b P (flat ji) 9 1 h v l)(k:l.length<=12):
  ∃h',lG [v] h=D V.undef h'/\dH b P (flat ji) 9 1 h' v (iC kP l.length l)/\Ch (λj=>bH v=some j) h h':=by
 have hl:=r.len h;by_cases a:l= []
 ·subst a;exact⟨h,Wv hl,r,Ch.refl _ _⟩
 ·obtain⟨i,f,rfl,hb,d⟩:=r.open a;have e1:(l.map ji).flatten=l.map H:=ajy l;rw[e1]at d;obtain⟨u,h',e,m,g⟩:=UG d (by omega);refine⟨h',Wu hl k e,?_,g.mono λj _ q=>by rw[q];rfl⟩;have:=dH.mk (P:=P) (b:=b) (c:=ji) (w:=1) (el:=9) (f:=f) (l:=iC kP l.length l) (λ_=>rfl) hb (by rw[show((iC kP l.length l).map ji).flatten=(iC kP l.length l).map H from ajy _];exact m)
  rw[AB]at this;exact this
theorem aiG{h:Hp}{v:V}{P:Pos->Prop}{E:El (List Nat)}{l:List (List Nat)}(r:Rws P E 1 h v l)(a:l.length<=1):sZ [v] h=D v h:=by
 rw[XI];simp(disch:=omega)only[vvB,a!,reduceCtorEq,↓reduceIte,Ai,GL,GK,GI,r.len];simp only[aU,bW,vvB,a!,reduceCtorEq,↓reduceIte,bZ]<;>rfl
def jJ{α:Type}(e:FuncId->Option Fun)(P:Pos->Prop)(E:El α)(h:Hp)(f:V)(l:List α):Prop:=
 ∀(g:Hp) (i j:Nat) (x y:α) (a b:List V),Nw h g->i<j->l[i]?=some x->l[j]?=some y->E P g x a->E P g y b->a.length=9->b.length=9->∃c,dK e f [.agg (V.ofList b),.agg (V.ofList a)] g=D (Y U 1) c/\Nw g c
theorem ae9{α:Type}{P:Pos->Prop}{E:El α}{h:Hp}{v f:V}{l:List α}(r:Rws P E 9 h v l)(z:E.Stable)(hn:l.length<=1000)(Z:jJ lC P E h f l):
  ∃u h',jC [v,Y U 0,Y U (l.length:Int),f] h=D u h'/\Nw h h':=by
 rw[Dw]
 suffices T:aX e! [] (λu h'=>Nw h h') (jA (T.set (some f) (b! 3) (T.set (some (Y U (l.length:Int))) (b! 2) (T.set (some (Y U 0)) (b! 1) (T.set (some v) (b! 0) T.nil)))) h) by
  obtain⟨u,h',e,c⟩:=T;exact⟨u,h',e,c⟩
 simp(disch:=omega)only[vvB,a!,reduceCtorEq,↓reduceIte,jA,qf];refine Oc.out (dZ (n:=l.length) (λm fr g=>∃k:Nat,l.length<=k+m/\fr.get (b! 8)=some (Y U ((k:Int)+1))/\fr.get (b! 3)=some f/\fr.get (b! 2)=some (Y U (l.length:Int))/\fr.get (b! 1)=some (Y U 0)/\fr.get (b! 0)=some v/\Nw h g/\k<=l.length) (A:=λfr g=>Nw h g) (B:=λ_ _=>False) (by rw[dW];omega) ?_ ?_) ?_ ?_
 ·exact⟨0,by omega,qK1,qK0,qK0,qK0,qK0,Nw.refl _,by omega⟩
 ·rintro m fr g ⟨k,hk,b,f3,f2,f1,f0,a,aa⟩;by_cases hm:l.length<=k+1
  ·simp(disch:=omega)only[vvB,a!,reduceCtorEq,↓reduceIte,kJ,kH,b,f2];exact⟨rfl,a⟩
  simp(disch:=omega)only[vvB,a!,reduceCtorEq,↓reduceIte,kJ,kH,qc,b,f2];refine Oc.out (Q:=λo=>LS _ _ _ _ (qF (BK 1 o) kG)) (dZ (n:=0) (λj fr p=>fr.get (b! 9)=some (Y U ((k:Int)+1))/\fr.get (b! 8)=some (Y U ((k:Int)+1))/\fr.get (b! 3)=some f/\fr.get (b! 2)=some (Y U (l.length:Int))/\fr.get (b! 1)=some (Y U 0)/\fr.get (b! 0)=some v/\p=g) (A:=λfr g=>fr.get (b! 8)=some (Y U ((k:Int)+1))/\fr.get (b! 3)=some f/\fr.get (b! 2)=some (Y U (l.length:Int))/\fr.get (b! 1)=some (Y U 0)/\fr.get (b! 0)=some v/\Nw h g) (B:=λ_ _=>False) (by rw[dW];omega) ?_ ?_) ?_ ?_
  ·exact⟨qK0,qK2 b,qK2 f3,qK2 f2,qK2 f1,qK2 f0,rfl⟩
  ·rintro j fr p ⟨W,b,f3,f2,f1,f0,rfl⟩;obtain⟨x,C⟩:∃x,l[k]?=some x:=⟨_,c! (by omega)⟩
   obtain⟨y,G⟩:∃y,l[k+1]?=some y:=⟨_,c! (by omega)⟩
   obtain⟨i,q,J,e1,ex,lx,-,-,-,n1⟩:=(r.nw z a).elt C;obtain⟨i',q',L,e2,S,ly,-,-,-,n2⟩:=(r.nw z a).elt G;have t:=n1 p rfl;have w:=n2 p rfl;have s:∀g,bJ 9 v (Y U ((k:Int)+1)) g=D (X i' q') g:=λg=>e2 g;have d:(k:Int)+1 - 1=(k:Int):=by omega
   obtain⟨g2,M,I⟩:=Z p k (k+1) x y J L a (by omega) C G ex S lx ly;simp(disch:=omega)only[vvB,a!,reduceCtorEq,↓reduceIte,qA,pY,W,f1,f0,f3,s,w,d,e1,t,M];exact⟨rfl,qK2 b,qK2 f3,qK2 f2,qK2 f1,qK2 f0,a.trans I⟩
  ·rintro fr g ⟨b,f3,f2,f1,f0,a⟩;simp(disch:=omega)only[vvB,a!,reduceCtorEq,↓reduceIte,kG,b];exact⟨m - 1,by omega,k+1,by omega,qK1,qK2 f3,qK2 f2,qK2 f1,qK2 f0,a,by omega⟩
  ·intro fr g q;exact q.elim
 ·rintro fr g a;exact aX.nor (qT0) a
 ·intro fr g q;exact q.elim
theorem Jr{α:Type}{P:Pos->Prop}{E:El α}{h:Hp}{v f s:V}{l:List α}(r:Rws P E 9 h v l)(I:E.Stable)(u:jJ iw P E h f l){i j:Nat}(a:i<j)(w:j<l.length):
  ∃h',iU [v,Y U (i:Int),Y U (j:Int),s,f] h=D (.tuple (.cons (Y U (i:Int)) (.cons (Y U (j:Int)) .nil))) h'/\Nw h h':=by
 obtain⟨x,d⟩:∃x,l[i]?=some x:=⟨_,c! (by omega)⟩
 obtain⟨y,e⟩:∃y,l[j]?=some y:=⟨_,c! w⟩
 obtain⟨p,q,k,e1,ex,z,-,-,-,C⟩:=r.elt d;obtain⟨J,L,m,e2,o,B,-,-,-,G⟩:=r.elt e;have b:=C h rfl;have c:=G h rfl;obtain⟨t,n,g⟩:=u h i j x y k m (Nw.refl _) a d e ex o z B;rw[NT];simp(disch:=omega)only[vvB,a!,reduceCtorEq,↓reduceIte,qR,yG,yF,yE,e2,c,e1,b,n];exact⟨t,by simp only[aU,bW,vvB,a!,reduceCtorEq,↓reduceIte,bZ]<;>rfl,g⟩
theorem amJ{α:Type}{P:Pos->Prop}{E:El α}{h:Hp}{v f s:V}{l:List α}(r:Rws P E 9 h v l)(a:E.Stable)(o:jJ iw P E h f l){i j k:Nat}(d:i<j)(m:j<k)(C:k<l.length):
  ∃h',mJ [v,Y U (i:Int),Y U (j:Int),Y U (k:Int),s,f] h=D (Y U (j:Int)) h'/\Nw h h':=by
 have n:∀{g},Nw h g->jJ iw P E g f l:=λc z i j x y t u p=>o z i j x y t u (c.trans p);obtain⟨G,e1,b⟩:=Jr (s:=s) r a o d (by omega);obtain⟨I,e2,e⟩:=Jr (s:=s) (r.nw a b) a (n b) m C;obtain⟨B,w,q⟩:=Jr (s:=s) ((r.nw a b).nw a e) a (n (b.trans e)) d (by omega);rw[NU];simp(disch:=omega)only[vvB,a!,reduceCtorEq,↓reduceIte,qU,yL,yK,yJ,yI,yH,e1,e2,w];exact⟨B,by simp only[aU,bW,vvB,a!,reduceCtorEq,↓reduceIte,bZ]<;>rfl,(b.trans e).trans q⟩
theorem ab1{α:Type}{P:Pos->Prop}{E:El α}{h:Hp}{v f:V}{l:List α}(r:Rws P E 9 h v l)(z:E.Stable)(S:jJ iw P E h f l)(h8:8<=l.length)(Q:l.length<50):
  ∃p h',jP [v,Y U 0,Y U (l.length:Int),f] h=D (.tuple (.cons p (.cons (Y U 1) .nil))) h'/\Nw h h':=by
 obtain⟨h1,o,m,Z⟩:=mkW h (O (N iW true) [Y U 0]);have L:∀{g},Nw h g->jJ iw P E g f l:=λc J i j x y G I C=>S J i j x y G I (c.trans C);obtain⟨q,hq⟩:∃q:Nat,q=l.length / 4:=⟨_,rfl⟩
 have t:1<=q/\q*3<l.length:=by omega
 obtain⟨M,e2,w⟩:=amJ (s:=X h.next 0) (r.nw z m) z (L m) (i:=q*1) (j:=q*2) (k:=q*3) (by omega) (by omega) t.2;have qu:∀g,aJ .quo .none (Y U (l.length:Int)) (Y U 4) g=D (Y U (q:Int)) g:=λg=>by
  have e:Int.tdiv (l.length:Int) 4=(q:Int):=by rw[Int.tdiv_eq_ediv_of_nonneg (by omega)];omega
  rw[aqt (by omega) (by rw[e];omega) (by rw[e];omega),e]
 have u:∀g (n:Nat),n<=3->aJ .mul .none (Y U (q:Int)) (Y U (n:Int)) g=D (Y U ((q*n:Nat):Int)) g:=λg n W=>by
  have e:(q:Int)*(n:Int)=((q*n:Nat):Int):=by simp
  have:q*n<=q*3:=Nat.mul_le_mul_left _ W;rw[aqv (by rw[e];omega) (by rw[e];omega),e]
 have a:=λg=>u g 1 (by omega);have b:=λg=>u g 2 (by omega);have d:=λg=>u g 3 (by omega);simp only[Int.natCast_one,show((2:Nat):Int)=2 from rfl,show((3:Nat):Int)=3 from rfl]at a b d;have B:=(Z.nw w).ld (q:=0) (x:=Y U 0) rfl;rw[Fj];simp(disch:=omega)only[vvB,a!,reduceCtorEq,↓reduceIte,nD,sO,sN,sK,sJ,sH,sG,sF,sD,qO,qN,qM,qL,p!,Int.zero_add,<-o,qu,a,b,d,e2,B];exact⟨_,M,by simp only[aU,bW,vvB,a!,reduceCtorEq,↓reduceIte,bZ]<;>rfl,m.trans w⟩
theorem aj0{α:Type}{P:Pos->Prop}{E:El α}{h:Hp}{v f:V}{l:List α}(r:Rws P E 9 h v l)(C:E.Stable)(hn:l.length<=1000)(h1:1<=l.length)(hc:jJ jD P E h f l):
  ∃h',ig [v,Y U 0,Y U (l.length:Int),f] h=D (K true) h'/\Nw h h':=by
 rw[wU]
 suffices T:aX e! [.tmp 8] (λr h'=>r=K true/\Nw h h') (gZ (T.set (some f) (b! 3) (T.set (some (Y U (l.length:Int))) (b! 2) (T.set (some (Y U 0)) (b! 1) (T.set (some v) (b! 0) T.nil)))) h) by
  obtain⟨r,h',e,rfl,c⟩:=T;exact⟨h',e,c⟩
 simp(disch:=omega)only[vvB,a!,reduceCtorEq,↓reduceIte,gZ,mg,l7,lZ];refine Oc.then (dZ (n:=0) (λm fr g=>fr.get (b! 10)=some (Y U 0)/\fr.get (b! 9)=some (Y U 1)/\fr.get (b! 3)=some f/\fr.get (b! 2)=some (Y U (l.length:Int))/\fr.get (b! 0)=some v/\g=h) (A:=λ_ _=>False) (B:=λfr g=>fr.get (b! 8)=some (K true)/\Nw h g) (by rw[dW];omega) ⟨qK0,qK1,qK0,qK0,qK0,rfl⟩ ?_) ?_ ?_
 ·rintro m fr g ⟨s,d,f3,f2,f0,rfl⟩;simp(disch:=omega)only[vvB,a!,reduceCtorEq,↓reduceIte,mr,lY,s];refine Oc.out (Q:=λo=>LS _ _ _ _ (qF (BK 1 (qF o _)) lX)) (dZ (n:=l.length) (λm fr b=>∃k:Nat,k+1+m=l.length+1/\fr.get (b! 9)=some (Y U ((k:Int)+1))/\fr.get (b! 3)=some f/\fr.get (b! 2)=some (Y U (l.length:Int))/\fr.get (b! 0)=some v/\Nw g b/\k+1<=l.length) (A:=λfr b=>fr.get (b! 9)=some (Y U (l.length:Int))/\fr.get (b! 2)=some (Y U (l.length:Int))/\Nw g b) (B:=λ_ _=>False) (by rw[dW];omega) ⟨0,by omega,qK3 d,qK2 f3,qK2 f2,qK2 f0,Nw.refl _,h1⟩ ?_) ?_ ?_
  ·rintro m fr b ⟨k,hk,d,f3,f2,f0,a,aa⟩;by_cases hm:k+1=l.length
   ·have u:((k:Int)+1<(l.length:Int))=False:=eq_false (by omega);simp(disch:=omega)only[vvB,a!,reduceCtorEq,↓reduceIte,je,jd,d,f2,u];exact⟨rfl,by simp only[vvB,a!,reduceCtorEq,↓reduceIte,d];rw[<-hm];rfl,qK2 f2,a⟩
   ·obtain⟨x,G⟩:∃x,l[k]?=some x:=⟨_,c! (by omega)⟩
    obtain⟨y,I⟩:∃y,l[k+1]?=some y:=⟨_,c! (by omega)⟩
    obtain⟨i,q,L,e1,ex,lx,-,-,-,n1⟩:=(r.nw C a).elt G;obtain⟨i',q',M,e2,W,ly,-,-,-,n2⟩:=(r.nw C a).elt I;have w:=n1 b rfl;have z:=n2 b rfl;have p:∀g,bJ 9 v (Y U ((k:Int)+1)) g=D (X i' q') g:=λg=>e2 g;have j:(k:Int)+1 - 1=(k:Int):=by omega
    have t:((1:Int)<0)=False:=eq_false (by decide);obtain⟨g2,S,J⟩:=hc b k (k+1) x y L M a (by omega) G I ex W lx ly;simp(disch:=omega)only[vvB,a!,reduceCtorEq,↓reduceIte,je,jd,lW,d,f2,f0,f3,p,z,j,e1,w,S,t];exact⟨m - 1,by omega,k+1,by omega,qK1,qK2 f3,qK2 f2,qK2 f0,a.trans J,by omega⟩
  ·rintro fr b ⟨d,f2,a⟩;simp(disch:=omega)only[vvB,a!,reduceCtorEq,↓reduceIte,lV,lU,d,f2];exact⟨qK0,a⟩
  ·intro fr g q;exact q.elim
 ·intro fr g q;exact q.elim
 ·rintro fr g ⟨Z,a⟩;exact aX.ret (qT1 Z) ⟨rfl,a⟩
theorem ahT{α:Type}{P:Pos->Prop}{E:El α}{h:Hp}{v f:V}{l:List α}(r:Rws P E 9 h v l)(a:E.Stable)(hn:l.length<50)(p:jJ lC P E h f l)(s:jJ iw P E h f l)(t:jJ jD P E h f l):
  ∃h',sV [v,f] h=D V.undef h'/\Nw h h':=by
 obtain⟨k,Q,w⟩:=UF h (n:=l.length) (by omega);have cu:kT .u64 (Y U (l.length:Int)) h=D (Y .u64 (l.length:Int)) h:=ahv (by omega) (by omega);have pd:∃G h',lH [v,Y U 0,Y U (l.length:Int),Y U k,f] h=D G h'/\Nw h h':=by
  rw[MQ]
  suffices T:aX e! [] (λu g=>Nw h g) (lD (T.set (some f) (b! 4) (T.set (some (Y U k)) (b! 3) (T.set (some (Y U (l.length:Int))) (b! 2) (T.set (some (Y U 0)) (b! 1) (T.set (some v) (b! 0) T.nil))))) h) by
   obtain⟨u,g,e2,c⟩:=T;exact⟨u,g,e2,c⟩
  simp(disch:=omega)only[vvB,a!,reduceCtorEq,↓reduceIte,lD,xC,xB];refine Oc.out (dZ (n:=0) (λm fr g=>fr.get (b! 0)=some v/\fr.get (b! 1)=some (Y U 0)/\fr.get (b! 2)=some (Y U (l.length:Int))/\fr.get (b! 3)=some (Y U k)/\fr.get (b! 4)=some f/\fr.get (b! 10)=some (K true)/\fr.get (b! 11)=some (K true)/\g=h) (A:=λ_ _=>False) (B:=λfr g=>Nw h g) (by rw[dW];omega) ⟨qK0,qK0,qK0,qK0,qK0,qK0,qK0,rfl⟩ ?_) ?_ ?_
  ·rintro m fr g ⟨f0,f1,f2,f3,C,d,o,rfl⟩;by_cases aa:l.length<=12
   ·obtain⟨u,Z,e,c⟩:=ae9 r a (by omega) p;simp(disch:=omega)only[vvB,a!,reduceCtorEq,↓reduceIte,oK,oJ,oI,xA,f0,f1,f2,C,p!,e];exact c
   ·have hk:=w (by omega);have z:(k=0)=False:=eq_false hk;obtain⟨pp,Z,e1,b⟩:=ab1 r a s (by omega) hn;obtain⟨g2,e2,J⟩:=aj0 (r.nw a b) a (by omega) (by omega) (f:=f) λW i j x y L M I=>t W i j x y L M (b.trans I);simp(disch:=omega)only[vvB,a!,reduceCtorEq,↓reduceIte,oK,oJ,oI,xw,xu,vJ,vI,vH,vG,f0,f1,f2,f3,C,d,o,p!,z,e1,e2];exact b.trans J
  ·intro fr g q;exact q.elim
  ·rintro fr g c;exact aX.ret (qT0) c
 obtain⟨G,h',S,c⟩:=pd;refine⟨h',?_,c⟩;rw[XE];simp(disch:=omega)only[vvB,a!,reduceCtorEq,↓reduceIte,Ag,Gg,Gf,r.len,cu,Q,S];rfl
end Go.Proofs.Im
namespace Go.Vm
section
variable{h:Hp}{i:Pos}
theorem Kn.rws{α:Type}{c:α->List V}{sz:Nat}{w:Wr}{l:List α}{cp:Cap}(k:Kn h i (O w (l.map c).flatten))(n:∀x,(c x).length=sz)(b:yB sz (.slice i 0 l.length cp)):
  Rws (λj=>j=i) (flat c) sz h (.slice i 0 l.length cp) l:=by
 have e:∀d∈l.map c,d.length=sz:=λd f=>by obtain⟨x,_,rfl⟩:=List.mem_map.1 f;exact n x
 refine⟨l.map c,?_,e,⟨?_,.inr ⟨i,0,cp,w,_,rfl,k.2,by rw[k.1];rfl,λq _=>by rw[q!]⟩⟩,b,λj m=>by cases m;rfl⟩
 ·clear k b e;induction l with
  |nil=>exact .nil
  |cons a l o=>exact .cons rfl o
 ·rw[gW e,t!]
end
end Go.Vm
namespace Go.Im
section
variable{tM:TypeId}{I:Pos->Prop}{h:Hp}{v:V}{l:List Ml}
theorem aDg.rws(r:aDg tM I h v l):Rws (λj=>I j\/bH v=some j) jf 8 h v l:=by
 obtain⟨b,a,c,r⟩:=r;have a':All2 (jf (λj=>I j\/bH v=some j) h) l b:=a.mono λ_ _ e=>dw e (Nw.refl h) λj _ q=>⟨.inl q,λq=>q⟩
 rcases r with⟨rfl,rfl⟩|⟨i,f,rest,rfl,k⟩
 ·cases a;exact Rws.aQ _ _ _ _
 ·refine⟨b,a',c,⟨by rw[gW c,a.len],.inr ⟨i,0,_,N tM f,b.flatten++rest,rfl,k.2,by rw[k.1];rfl,λq m=>?_⟩⟩,λ_ _ _ _ e=>(by cases e;rfl),λj d=>.inr d⟩;rw[q!,List.getElem?_append_left];rw[gW c,a.len];exact m
end
end Go.Im
namespace Go.Proofs.Im
section
variable{h h' g:Hp}{F I:Pos->Prop}{ps pl ib:Pos}{A:Acc}{cb:Cap}{fb:Bool}{vm vl:V}
abbrev dG(h:Hp)(F:Pos->Prop)(ps:Pos)(A:Acc)(pl ib:Pos)(cb:Cap)(fb:Bool)(vm vl:V)(I:Pos->Prop):Prop:=AccR tSt tLg tBx tMl tEn h F ps A pl ib cb fb vm vl I
theorem dG.bxr(a:dG h F ps A pl ib cb fb vm vl I):Rws (λj=>j=ib) (flat fF) 6 h (.slice ib 0 A.boxes.length cb) A.boxes:=a.bx.rws (λ_=>rfl) a.cap
theorem dG.ch{S:Pos->Prop}(a:dG h F ps A pl ib cb fb vm vl I)(c:Ch S h h')(b:∀j,F j->¬S j):dG h' F ps A pl ib cb fb vm vl I where
 st:=a.st.ch c (b _ a.foot.1)
 lg:=a.lg.ch c (b _ a.foot.2.1)
 bx:=a.bx.ch c (b _ a.foot.2.2.1)
 cap:=a.cap
 ml:=by
  obtain⟨d,x,m,r⟩:=a.ml;exact⟨d,x.mono λ_ _ e=>dw e c λj _ q=>⟨q,b j (a.inn j q).1⟩,m,r.imp id λ⟨i,f,rest,e,k⟩=>⟨i,f,rest,e,k.ch c (b i (a.foot.2.2.2.1 i (by rw[e];rfl)))⟩⟩
 en:=a.en.ch (aK _) c (λj e=>b j (a.foot.2.2.2.2 j e)) λ_ _ q=>q.elim
 ne:=a.ne
 nm:=a.nm
 nl:=a.nl
 inn:=a.inn
 foot:=a.foot
 lt:=λj f=>Nat.lt_of_lt_of_le (a.lt j f) c.next
 enil:=a.enil
theorem dG.nw(a:dG h F ps A pl ib cb fb vm vl I)(c:Nw h h'):dG h' F ps A pl ib cb fb vm vl I:=a.ch c λ_ _ q=>q
theorem aAK{b:Bx}{p:Pos}{n:Int}{w:Wr}(k:Kn g p (O w [iV n])):MP [.agg (V.ofList (fF b)),X p 0] g=D (K (decide (b.id=n))) (g.new (O (N tBx true) (fF b))):=by
 have e1:=(Kn.new g (O (N tBx true) (fF b))).ld (q:=0) (x:=iV b.id) rfl;have e2:=(k.add (O (N tBx true) (fF b))).ld (q:=0) (x:=iV n) rfl;rw[as7];simp only[vvB,a!,reduceCtorEq,↓reduceIte,adU,agn,agm,V.dD,e1,e2];simp only[aU,bW,vvB,a!,reduceCtorEq,↓reduceIte,bZ]
theorem ayv{m:Ml}{vk vm:V}{p:Pos}{n:Int}{w:Wr}(k:Kn g p (O w [iV n])):Ih [.agg (V.ofList (dB m vk vm)),X p 0] g=D (K (decide (m.id=n))) (g.new (O (N tMl true) (dB m vk vm))):=by
 have e1:=(Kn.new g (O (N tMl true) (dB m vk vm))).ld (q:=0) (x:=iV m.id) rfl;have e2:=(k.add (O (N tMl true) (dB m vk vm))).ld (q:=0) (x:=iV n) rfl;rw[aoZ];simp only[vvB,a!,reduceCtorEq,↓reduceIte,ZB,adg,adf,V.dD,e1,e2];simp only[aU,bW,vvB,a!,reduceCtorEq,↓reduceIte,bZ]
theorem ayj(p:Pos)(x:V)(g:Hp):dK jT (.func (.func apC) .nil (.cons (X p 0) .nil)) [x] g=MP [x,X p 0] g:=(rfl)
theorem atM(p:Pos)(x:V)(g:Hp):dK kK (.func (.func anr) .nil (.cons (X p 0) .nil)) [x] g=Ih [x,X p 0] g:=(rfl)
theorem YX(a:dG h F ps A pl ib cb fb vm vl I)(o:A.Small)(n:Int):∃h',Ea [X ps 0,iV n] h=D (iV (gK (A.boxes.findIdx? λb=>decide (b.id=n)))) h'/\Nw h h':=by
 obtain⟨r,c,d,p⟩:=mkW h (O (N iW true) [iV n]);have a1:=a.nw d;have L:=a1.st.ld (q:=10) rfl;obtain⟨m,e2,j⟩:=yD a1.bxr (aK _) (λb=>decide (b.id=n)) (by have:=o.boxes;omega) (f:=.func (.func apC) .nil (.cons (X h.next 0) .nil)) (λb cs g _ k e _=>by
  rw[show cs=fF b from e,ayj,aAK (p.nw k)];exact⟨_,rfl,Nw.new _ _⟩)
 rw[aus];simp only[vvB,a!,reduceCtorEq,↓reduceIte,aim,akI,akH,<-c,L,e2];exact⟨m,by simp only[aU,bW,vvB,a!,reduceCtorEq,↓reduceIte,bZ],d.trans j⟩
theorem an4(a:dG h F ps A pl ib cb fb vm vl I)(p:A.Small)(n:Int):∃h',MN [X ps 0,iV n] h=D (iV (gK (A.aP.findIdx? λm=>decide (m.id=n)))) h'/\Nw h h':=by
 obtain⟨s,c,d,r⟩:=mkW h (O (N iW true) [iV n]);have a1:=a.nw d;have L:=a1.st.ld (q:=11) rfl;obtain⟨o,e2,j⟩:=D6 a1.ml.rws dw (λm=>decide (m.id=n)) (by have:=p.aP;omega) (f:=.func (.func anr) .nil (.cons (X h.next 0) .nil)) (λb cs g _ k e _=>by
  obtain⟨vk,vm,rfl,-,-⟩:=e;rw[atM,ayv (r.nw k)];exact⟨_,rfl,Nw.new _ _⟩)
 rw[as3];simp only[vvB,a!,reduceCtorEq,↓reduceIte,adR,agc,agb,<-c,L,e2];exact⟨o,by simp only[aU,bW,vvB,a!,reduceCtorEq,↓reduceIte,bZ],d.trans j⟩
end
section
variable{h h':Hp}{F I:Pos->Prop}{ps pl ib p:Pos}{A:Acc}{cb:Cap}{fb:Bool}{vm vl:V}
theorem Uw{w:Wr}{cs:List V}{q:Nat}{n:Int}(k:Kn h p (O w cs))(a:cs[q]?=some (iV n)):vN [X p q] h=D (iV n) h:=by
 have e:=atT k a;rw[ath];simp only[vvB,a!,reduceCtorEq,↓reduceIte,ad4,ag4,ag1,J6,w!,e];simp only[aU,bW,vvB,a!,reduceCtorEq,↓reduceIte,bZ]
theorem O9{t:TypeId}{f:Bool}{cs:List V}{q:Nat}{n:Int}(k:Kn h p (O (N t f) cs))(a:q<cs.length):∃u,pI [X p q,iV n] h=D u (h.put p (some (O (N t f) (cs.set q (iV n))))):=by
 have e:=arx (n:=n) k a;rw[ao6];simp only[vvB,a!,reduceCtorEq,↓reduceIte,ZM,adE,Iq,w!,e];exact⟨_,rfl⟩
theorem atm{t:TypeId}{f:Bool}{cs:List V}{q:Nat}{n m:Int}(k:Kn h p (O (N t f) cs))(c:cs[q]?=some (iV n))(a: -9223372036854775808<=n+m)(b:n+m<9223372036854775808):
  XK [X p q,iV m] h=D (iV (n+m)) (h.put p (some (O (N t f) (cs.set q (iV (n+m)))))):=by
 have e:=ayn k c a b;rw[aBm];simp only[vvB,a!,reduceCtorEq,↓reduceIte,asI,asD,asC,atl,w!,e];simp only[aU,bW,vvB,a!,reduceCtorEq,↓reduceIte,bZ]
theorem ajY(a:dG h F ps A pl ib cb fb vm vl I):Ii [X ps 0] h=D (iV A.clock) h:=by
 have e:=Uw a.st (q:=9) rfl;rw[ao0];simp only[vvB,a!,reduceCtorEq,↓reduceIte,ZC,adl,adk,adi,eG,e];simp only[aU,bW,vvB,a!,reduceCtorEq,↓reduceIte,bZ]
theorem ac0(a:dG h F ps A pl ib cb fb vm vl I)(b:A.Small):Fb [X ps 0] h=D (K false) h:=by
 have e:=ajY a;have L:=a.st.ld (q:=6) (x:=iV 1073741824) rfl;have c:=b.clock;rw[as5];simp only[vvB,a!,reduceCtorEq,↓reduceIte,adS,agf,agd,e,L,wG rfl L];simp only[aU,bW,vvB,a!,reduceCtorEq,↓reduceIte,bZ];rw[decide_eq_false (by omega)]
theorem acZ(a:dG h F ps A pl ib cb fb vm vl I)(b:A.Small):
  E8 [X ps 0] h=D (iV (A.clock+1)) (h.put ps (some (O (N tSt true) (stC {A with clock:=A.clock+1} ib cb vm pl)))):=by
 have c:=b.clock;have e:=atm a.st (q:=9) (n:=A.clock) (m:=1) rfl (by omega) (by omega);rw[as2];simp only[vvB,a!,reduceCtorEq,↓reduceIte,adQ,af7,af6,e];simp only[aU,bW,vvB,a!,reduceCtorEq,↓reduceIte,bZ];rfl
theorem dG.aep(a:dG h F ps A pl ib cb fb vm vl I){B:Acc}(hb:B.boxes=A.boxes)(o:B.aP=A.aP)(g:B.ents=A.ents)(m:B.floor=A.floor):
  dG (h.put ps (some (O (N tSt true) (stC B ib cb vm pl)))) F ps B pl ib cb fb vm vl I:=by
 have c:Ch (λj=>j=ps) h (h.put ps (some (O (N tSt true) (stC B ib cb vm pl)))):=Ch.put _ _ rfl;have ne:=a.ne;refine⟨a.st.put _,?_,?_,by rw[hb];exact a.cap,?_,?_,a.ne,a.nm,a.nl,a.inn,a.foot,a.lt,by rw[g];exact a.enil⟩
 ·rw[m];exact a.lg.ch c λe=>ne.1 e.symm
 ·rw[hb];exact a.bx.ch c λe=>ne.2.1 e.symm
 ·rw[o];obtain⟨b,x,d,r⟩:=a.ml;refine⟨b,x.mono λ_ _ e=>dw e c λj _ q=>⟨q,λe=>(a.inn j q).2.1 e⟩,d,r.imp id λ⟨i,f,rest,e,k⟩=>⟨i,f,rest,e,k.ch c λl=>?_⟩⟩;exact(a.nm i (by rw[e];rfl)).1 l
 ·rw[g];obtain⟨b,x,d,s⟩:=a.en;exact⟨b,x.mono λ_ _ e=>e,d,s.ch c λj n e=>(a.nl j n).1 e⟩
theorem OU(a:dG h F ps A pl ib cb fb vm vl I)(e:A.Small):
  ∃r h',wS [X ps 0] h=D r h'/\Rws (λj=>h.next.nat<=j.nat) (flat fF) 6 h' r A.boxes/\Nw h h'/\dH h.next.nat (λ_=>False) (flat fF) tBx 6 h' r A.boxes:=by
 have L:=a.st.ld (q:=10) rfl;have hb:=e.boxes;obtain⟨r,d,e1,r1,c,b⟩:=auC a.bxr (by omega);rw[ao1];simp only[vvB,a!,reduceCtorEq,↓reduceIte,ZE,adp,ado,adn,eG,L,e1];refine⟨r,d,by simp only[aU,bW,vvB,a!,reduceCtorEq,↓reduceIte,bZ],r1,c,?_⟩;rcases b with b|b
 ·rw[b]at hb;simp at hb
 ·exact b
abbrev zMl:List V:= [(Y U 0),(Y U 0),(H []),(Y U 0),.aQ,.aQ,(Y U 0),(Y U 0)]
theorem aEG(x:V)(h:Hp):AV e! tMl x h=bT 8 x h:=kR
theorem azG{P:Pos->Prop}{m:Ml}{vk vm:V}(e:jf P h m (dB m vk vm))(hk:m.keys.length<=1000)(hm:m.mem.length<=1000):
  ∃h' c d,KE [.agg (V.ofList (dB m vk vm))] h=D (.agg (V.ofList (dB m c d))) h'/\Nw h h'/\jf (λj=>h.next.nat<=j.nat) h' m (dB m c d):=by
 obtain⟨J,L,f,rk,rm⟩:=e;obtain⟨rfl,rfl⟩:vk=J/\vm=L:=by unfold dB at f;injection f with _ f;injection f with _ f;injection f with _ f;injection f with _ f;injection f with a f;injection f with b f;exact⟨a,b⟩
 obtain⟨g,w,C,k1⟩:=mkW h (O (N tMl true) (dB m vk vm));have n1:g.next.nat=h.next.nat+1:=by rw[w,bD]
 obtain⟨h2,y,z,z2⟩:=mkW g (O (N tMl true) zMl);have n2:h2.next.nat=g.next.nat+1:=by rw[y,bD]
 have G:=k1.nw z;obtain⟨c,h3,e3,Z,t,-⟩:=XM (rk.nw (aK _) (C.trans z)) (by omega);have M:=G.nw t;obtain⟨d,E,e4,r4,u,-⟩:=ank (rm.nw (aK _) ((C.trans z).trans t)) (by omega);have Q:=M.nw u;have z4:=(z2.nw t).nw u;have L1:=G.ld (q:=4) (x:=vk) rfl;have L2:=M.ld (q:=5) (x:=vm) rfl;have B:=G.ld (q:=5) (x:=vm) rfl;have n3:=t.next;have n4:=u.next;obtain⟨o,i⟩:∃o,o=E.put h.next (some (O (N tMl true) (dB m c vm))):=⟨_,rfl⟩
 have S5:aT 1 (X h.next 4) c E=D V.undef o:=by rw[i];exact Q.st (q:=4) Z.cell (show 4<8 by omega)
 have W:Kn o h.next (O (N tMl true) (dB m c vm)):=by rw[i];exact Q.put _
 have c5:Nw h o:=by rw[i];exact(((C.trans z).trans t).trans u).put (g! _) _
 have z5:Kn o g.next (O (N tMl true) zMl):=by rw[i];exact z4.PZ (λe=>by have:=congrArg Pos.nat e;omega) _
 obtain⟨r,k⟩:∃r,r=o.put h.next (some (O (N tMl true) (dB m c d))):=⟨_,rfl⟩
 have S6:aT 1 (X h.next 5) d o=D V.undef r:=by rw[k];exact W.st (q:=5) r4.cell (show 5<8 by omega)
 have k6:Kn r h.next (O (N tMl true) (dB m c d)):=by rw[k];exact W.put _
 have z6:Kn r g.next (O (N tMl true) zMl):=by rw[k];exact z5.PZ (λe=>by have:=congrArg Pos.nat e;omega) _
 have L6:=k6.ldN (n:=8) rfl;obtain⟨s,l⟩:∃s,s=r.put g.next (some (O (N tMl true) (dB m c d))):=⟨_,rfl⟩
 have S7:aT 8 (X g.next 0) (.agg (V.ofList (dB m c d))) r=D V.undef s:=by rw[l];exact z6.stN rfl rfl
 have z7:Kn s g.next (O (N tMl true) (dB m c d)):=by rw[l];exact z6.put _
 have c7:Nw h s:=by rw[l,k];exact(c5.put (g! _) _).put (by omega) _
 have v:Ch (λj=>j=h.next\/j=g.next) E s:=by
  rw[l,k,i];exact((Ch.put (S:=λj=>j=h.next\/j=g.next) _ _ (.inl rfl)).trans (Ch.put (S:=λj=>j=h.next\/j=g.next) _ _ (.inl rfl)) λ_ _ q=>q).trans (Ch.put (S:=λj=>j=h.next\/j=g.next) _ _ (.inr rfl)) λ_ _ q=>q
 rw[ana];simp only[vvB,a!,reduceCtorEq,↓reduceIte,U7,aa5,aa4,aa3,V.dD,<-w,<-y,L1,e3,L2,wG rm.noF B,e4,S5,S6,L6,S7];refine⟨s,c,d,by simp only[aU,bW,vvB,a!,reduceCtorEq,↓reduceIte,aEG,z7.ldN (n:=8) rfl,bZ],c7,c,d,rfl,?_,?_⟩
 ·exact Z.ch (P':=λj=>h.next.nat<=j.nat) (aK _) (u.ch.trans v λ_ _ q=>q) λj _ q=>⟨by omega,λe=>by rcases e with rfl|rfl<;>omega⟩
 ·exact r4.ch (P':=λj=>h.next.nat<=j.nat) (aK _) v λj _ q=>⟨by omega,λe=>by rcases e with rfl|rfl<;>omega⟩
end
end Go.Proofs.Im
