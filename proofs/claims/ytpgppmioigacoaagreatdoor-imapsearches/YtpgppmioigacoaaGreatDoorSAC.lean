/- Lemmas. No conditions. -/
import Derived.Test.YtpgppmioigacoaaGreatDoorSAB
import Derived.Lib.UnsafeStr
import Derived.Laws.LoneSync
set_option linter.all false
open Go.Instr renaming sameNow→a!,keyThatStays→k!,lookup→n!,findNow→t!,findKey→u!,mapUpdate→z!,sameBits→B!,buildSlice→K!,checkKey→h?,makeMap→i?,field→o?
open Go.Builtin renaming zeroCells→b!,append_→x!,unsafeString_→y!,clear_→A!,copy_→O!,cap_→Q!
open Go.Result renaming andThen_ok→c!
open Go.Sem renaming run_bind→d!,run_pure→q?,run→r?
open Nat renaming eq_of_beq_eq_true→e!,le_of_ble_eq_true→p!,beq→q!,mul_eq_zero→N!,le_mul_of_pos_right→T!,ne_of_beq_eq_false→V!,blt_eq→c?,ble→e?,blt→t?,beq_eq→w?
open Array renaming ext'→g!,getElem?_eq_some_iff→P!,getElem?_modify→U!,toList_modify→Z!,toList_push→b?,range→p?
open List renaming mem_of_getElem?→h!,getElem?_eq_some_iff→i!,getElem?_eq_getElem→j!,Perm→l!,replicate→o!,getElem_of_mem→C!,mem_map→F!,getElem?_map→G!,ext_getElem?→H!,map_append→L!,pairwise_append→W!,getElem?_modify→X!,getElem?_set→d?,getElem_map→g?,map_map→n?
open Go.Op renaming equalIn→r!,operands→w!
open ForInStep renaming yield→v!,done→a?
open Option.some renaming inj→D!,injEq→v?
open Go.Conv renaming unsafePointer→E!
open List.Perm renaming swap→I!,refl→J!
open Bool renaming eq_iff_iff→M!
open Go.World renaming freeze→R!,shape?→j?,cell?→l?
noncomputable section
namespace Go.Vm
section
variable{P:Program}{G:Nat}{M:Mp}{h h':Hp}{w:World}{r:V}
def mG(d:TypeDesc)(x:V):Bool:=match d,x with
 | .int _,.int _ _=>true
 | .string,.str _=>true
 | .bool,.bool _=>true
 |_,_=>false
def lJ(x:V):List (V×V)->Option (Option V)
 | []=>some none
 |(k,v)::l=>(match iL x k with|some b=>(match b with|true=>some (some v)|false=>lJ x l)|none=>none)
def akq(x y:V):List (V×V)->Option (List (V×V))
 | []=>some [(x,y)]
 |(k,v)::l=>(match iL x k with
  |some b=>(match b with|true=>some ((x,y)::l)|false=>(match akq x y l with|some r=>some ((k,v)::r)|none=>none))
  |none=>none)
def ahl(ok:Bool)(v:V)(b:Bool)(h:Hp):R V:=match ok with|true=>.ok (.tuple (.cons v (.cons (.bool b) .nil))) h|false=>.ok v h
def ahm(ok:Bool)(z x:V)(es:List (V×V))(h:Hp):R V:=match lJ x es with
 |some o=>(match o with|some v=>ahl ok v true h|none=>ahl ok z false h)
 |none=>.bad
def LH(ok:Bool)(z m x:V)(h:Hp):R V:=match m with
 | .jM=>ahl ok z false h
 | .map i=>(match h.get i with|some (.map es)=>ahm ok z x es h|_=>.bad)
 |_=>.bad
def xQ(m x y:V)(h:Hp):R V:=match m with
 | .map i=>(match h.get i with
  |some (.map es)=>(match akq x y es with|some a=>.ok V.undef (h.put i (some (.map a)))|none=>.bad)
  |_=>.bad)
 |_=>.bad
def Z8(h:Hp):R V:=.ok (.map h.next) (h.new (.map []))
def PY{d:TypeDesc}{a:TypeId}(hk:P.underlying a=some d){x:V}(b:mG d x=true)(c:Value)(e:Bool):(h? e 10000 a c).run P w=.ok () w:=by
 rw[show(10000:Nat)=9999+1 from rfl];unfold h?;rw[d!,run_underlying hk];cases d<;>cases x<;>first|(cases b;done)|rfl
def aao{d:TypeDesc}{x y:V}{c e:Value}{b:Bool}(f:mG d x=true)(i:Rp M x c)(j:Rp M y e)(hb:iL x y=some b):a! d c e=some b:=by
 cases x with
 |int k a=>
  cases y<;>try (cases hb;done)
  rename_i n a';simp only[iL]at hb;split at hb
  ·rename_i hk;cases hb;have g:=LU hk;subst g;cases i.int;cases j.int;cases d<;>first|(cases f;done)|(simp[a!,Bo])
  ·cases hb
 |str s=>
  cases y<;>try (cases hb;done)
  rename_i t;cases hb;obtain⟨l,rfl⟩:=i.str;obtain⟨m,rfl⟩:=j.str;cases d<;>first|(cases f;done)|skip
  simp only[a!];rw[ZP l m];congr 1;show((bts s).data==(bts t).data)=_;simp only[bts];rw[M!];simp
 |bool a=>
  cases y<;>try (cases hb;done)
  rename_i a';cases i.bool;cases j.bool;cases d<;>first|(cases f;done)|skip
  simp only[a!];rw[<-hb];cases a<;>cases a'<;>rfl
 |_=>cases hb
def aCy{d:TypeDesc}{x y:V}{c e:Value}(n:mG d x=true)(i:Rp M x c)(j:Rp M y e)(hb:iL x y=some true):e=c/\(k! e c).run P w=.ok c w:=by
 have key:e=c/\B! 10000 c c=true:=by
  rw[show(10000:Nat)=9999+1 from rfl];cases x with
  |int k a=>
   cases y<;>try (cases hb;done)
   rename_i o a';simp only[iL]at hb;split at hb
   ·rename_i hk;have g:=LU hk;subst g;have b:nR a a'=true:=by simpa using hb
    rw[Bo]at b;have f:a=a':=by simpa using b
    subst f;cases i.int;cases j.int;exact⟨rfl,by simp[B!]⟩
   ·cases hb
  |str s=>
   cases y<;>try (cases hb;done)
   rename_i t;obtain⟨l,rfl⟩:=i.str;obtain⟨m,rfl⟩:=j.str;have b:kF s t=true:=by simpa[iL]using hb
   rw[ZP l m]at b;have e1:s.map UInt8.ofNat=t.map UInt8.ofNat:=by simpa using b
   have e2:bts t=bts s:=by unfold bts;rw[e1]
   refine⟨by rw[e2],?_⟩;simp only[B!];show((bts s).data==(bts s).data)=true;simp
  |bool a=>
   cases y<;>try (cases hb;done)
   rename_i a';cases i.bool;cases j.bool;cases a<;>cases a'<;>first|(cases hb;done)|exact⟨rfl,by simp[B!]⟩
  |_=>cases hb
 obtain⟨rfl,k⟩:=key;refine⟨rfl,?_⟩;unfold k!;rw[if_pos k];rfl
def alY:∀{s t:List Nat},kF s t=true->s=t
 | [],[],_=>rfl
 | [],_::_,h=>by cases h
 |_::_,[],h=>by cases h
 |a::x,b::y,h=>by
  simp only[kF]at h;split at h
  ·rename_i c;rw[e! c,alY h]
  ·cases h
def arj(a b:Nat):q! a b=q! b a:=by
 rw[M!,w?,w?];exact eq_comm
def alZ:∀(s t:List Nat),kF s t=kF t s
 | [],[]=>rfl
 | [],_::_=>rfl
 |_::_,[]=>rfl
 |a::x,b::y=>by simp only[kF];rw[arj a b,alZ x y]
def aCB(a b:Int):nR a b=nR b a:=by
 rw[Bo,Bo,M!];simp only[beq_iff_eq];exact eq_comm
def amq{x y:V}(h:iL x y=some true):x=y:=by
 cases x with
 |int k a=>
  cases y<;>try (cases h;done)
  rename_i c b;simp only[iL]at h;split at h
  ·rename_i hk;have h':nR a b=true:=by simpa using h
   rw[Bo]at h';rw[LU hk,show a=b by simpa using h']
  ·cases h
 |str s=>
  cases y<;>try (cases h;done)
  rename_i t;rw[alY (s:=s) (t:=t) (by simpa[iL]using h)]
 |bool a=>
  cases y<;>try (cases h;done)
  rename_i b;cases a<;>cases b<;>first|rfl|(cases h;done)
 |_=>cases h
def Sz{x y:V}{b:Bool}(h:iL x y=some b):iL y x=some b:=by
 cases x with
 |int k a=>
  cases y<;>try (cases h;done)
  rename_i c a';simp only[iL]at h⊢;rw[arj];split at h
  ·rename_i hk;(try rw[hk]);rw[aCB];exact h
  ·cases h
 |str s=>
  cases y<;>try (cases h;done)
  rename_i t;simp only[iL]at h⊢;rw[alZ];exact h
 |bool a=>
  cases y<;>try (cases h;done)
  rename_i a';simp only[iL]at h⊢;rw[<-h];cases a<;>cases a'<;>rfl
 |_=>cases h
def jd.get:∀{ps:List (V×V)} {l:List MapEntry} (_:jd M ps l) {n:Nat} {e:MapEntry},l[n]?=some e->∃k v,ps[n]?=some (k,v)/\Rp M k e.key/\Rp M v e.val
 | [],_,h,n,e,a=>by rw[show _= [] from h]at a;simp at a
 |(k,v)::ps,_,⟨e0,es,h,g,x⟩,0,e,a=>by subst x;simp at a;subst a;exact⟨k,v,rfl,h.1,h.2⟩
 |p::ps,_,⟨e0,es,h,g,x⟩,n+1,e,a=>by subst x;simp at a⊢;exact jd.get g a
def jd.at:∀{ps:List (V×V)} {l:List MapEntry} (_:jd M ps l) {n:Nat} {k v:V},ps[n]?=some (k,v)->∃e,l[n]?=some e/\Rp M k e.key/\Rp M v e.val
 | [],_,h,n,k,v,a=>by simp at a
 |p::ps,_,⟨e0,es,h,g,x⟩,0,k,v,a=>by subst x;simp at a;subst a;exact⟨e0,rfl,h.1,h.2⟩
 |p::ps,_,⟨e0,es,h,g,x⟩,n+1,k,v,a=>by subst x;simp at a⊢;exact jd.at g a
def jd.snoc{x y:V}{e:MapEntry}(a:Rp M x e.key)(b:Rp M y e.val):∀{ps:List (V×V)} {l:List MapEntry},jd M ps l->jd M (ps++ [(x,y)]) (l++ [e])
 | [],_,h=>by rw[show _= [] from h];exact⟨e,[],⟨a,b⟩,rfl,rfl⟩
 |p::ps,_,⟨e0,es,h,g,z⟩=>by subst z;exact⟨e0,_,h,jd.snoc a b g,rfl⟩
def jd.set{x y:V}{e:MapEntry}(a:Rp M x e.key)(b:Rp M y e.val):∀{ps:List (V×V)} {l:List MapEntry} (n:Nat),jd M ps l->jd M (ps.set n (x,y)) (l.set n e)
 | [],_,n,h=>by rw[show _= [] from h];rfl
 |p::ps,_,0,⟨e0,es,h,g,z⟩=>by subst z;exact⟨e,es,⟨a,b⟩,g,rfl⟩
 |p::ps,_,n+1,⟨e0,es,h,g,z⟩=>by subst z;exact⟨e0,_,h,jd.set a b n g,rfl⟩
def jd.perm{ps qs:List (V×V)}(n:l! ps qs):∀{l:List MapEntry},jd M ps l->∃k,l! k l/\jd M qs k:=by
 induction n with
 |nil=>intro l h;exact⟨l,J! _,h⟩
 |cons p _ o=>
  rintro l ⟨e,es,h,g,rfl⟩;obtain⟨k,a,b⟩:=o g;exact⟨e::k,a.cons e,e,k,h,b,rfl⟩
 |swap p q ps=>
  rintro l ⟨e,es,h,⟨f,i,h',g,rfl⟩,rfl⟩;exact⟨f::e::i,I! _ _ _,f,_,h',⟨e,_,h,g,rfl⟩,rfl⟩
 |trans _ _ c d=>
  intro l h;obtain⟨k,a,b⟩:=c h;obtain⟨s,j,m⟩:=d b;exact⟨s,j.trans a,m⟩
def ig.perm{es c:List (V×V)}(d:l! es c)(h:ig es):ig c:=
 (l!.pairwise_iff (λ{a b}=>Sz (x:=a) (y:=b) (b:=false)) (d.map _)).1 h
def ig.sub{es a:List (V×V)}(b:List.Sublist es a)(h:ig a):ig es:=List.Pairwise.sublist (b.map _) h
def ig.snoc{es:List (V×V)}{x y:V}(h:ig es)(hn:∀(n:Nat) k v,es[n]?=some (k,v)->iL x k=some false):ig (es++ [(x,y)]):=by
 unfold ig;rw[L!,W!];refine⟨h,by simp,λa d b hb=>?_⟩;simp at hb;subst hb;obtain⟨⟨k,v⟩,f,rfl⟩:=F!.1 d;obtain⟨n,c,e⟩:=C! f;exact Sz (hn n k v (by rw[j! c,e]))
def ig.last{es:List (V×V)}{x y:V}(h:ig (es++ [(x,y)])):∀(n:Nat) k v,es[n]?=some (k,v)->iL x k=some false:=by
 intro n k v hn;unfold ig at h;rw[L!,W!]at h;exact Sz (h.2.2 k (F!.2 ⟨(k,v),h! hn,rfl⟩) x (by simp))
def ig.others{es:List (V×V)}(h:ig es){n:Nat}{x v:V}(hn:es[n]?=some (x,v)):∀(m:Nat) k u,m≠n->es[m]?=some (k,u)->iL x k=some false:=by
 intro m k u f e;unfold ig at h;rw[List.pairwise_iff_getElem]at h;obtain⟨c,en⟩:=i!.1 hn;obtain⟨b,em⟩:=i!.1 e;rcases Nat.lt_or_ge m n with a|d
 ·have:=h m n (by simpa using b) (by simpa using c) a;simp only[g?,en,em]at this;exact Sz this
 ·have:=h n m (by simpa using c) (by simpa using b) (by omega);simpa only[g?,en,em]using this
def aat{x v:V}:∀{es:List (V×V)},lJ x es=some (some v)->∃n:Nat,es[n]?=some (x,v)/\iL x x=some true/\∀(m:Nat) k u,m<n->es[m]?=some (k,u)->iL x k=some false
 | [],h=>by cases h
 |(k,u)::es,h=>by
  simp only[lJ]at h;split at h
  ·rename_i b hb;split at h
   ·cases h;have:=amq hb;subst this;exact⟨0,rfl,hb,λm k u e=>by omega⟩
   ·obtain⟨n,a,c,d⟩:=aat h;refine⟨n+1,a,c,λm f g e hk=>?_⟩;cases m with
    |zero=>simp at hk;obtain⟨rfl,rfl⟩:=hk;exact hb
    |succ m=>exact d m f g (by omega) hk
  ·cases h
def SH{x:V}:∀{es:List (V×V)},lJ x es=some none->∀(m:Nat) k u,es[m]?=some (k,u)->iL x k=some false
 | [],_,m,k,u,a=>by simp at a
 |(c,d)::es,h,m,k,u,a=>by
  simp only[lJ]at h;split at h
  ·rename_i b hb;split at h
   ·cases h
   ·cases m with
    |zero=>simp at a;obtain⟨rfl,rfl⟩:=a;exact hb
    |succ m=>exact SH h m k u a
  ·cases h
def auC{x y:V}:∀{es:List (V×V)},(∀(m:Nat) k u,es[m]?=some (k,u)->iL x k=some false)->akq x y es=some (es++ [(x,y)])
 | [],_=>rfl
 |(k,u)::es,h=>by
  simp only[akq,h 0 k u rfl,auC (es:=es) λm k u a=>h (m+1) k u a];rfl
def azn{x y:V}:∀{es a:List (V×V)},akq x y es=some a->(lJ x es=some none/\a=es++ [(x,y)])\/(∃(n:Nat) (v:V),lJ x es=some (some v)/\es[n]?=some (x,v)/\a=es.set n (x,y))
 | [],a,h=>by cases h;exact .inl ⟨rfl,rfl⟩
 |(k,u)::es,a,h=>by
  simp only[akq]at h;split at h
  ·rename_i b hb;split at h
   ·cases h;have:=amq hb;subst this;exact .inr ⟨0,u,by simp only[lJ,hb],rfl,rfl⟩
   ·split at h
    ·rename_i r f;cases h;rcases azn f with⟨c,d⟩|⟨n,v,c,d,e⟩
     ·exact .inl ⟨by simp only[lJ,hb];exact c,by rw[d];rfl⟩
     ·exact .inr ⟨n+1,v,by simp only[lJ,hb];exact c,d,by rw[e];rfl⟩
    ·cases h
  ·cases h
def aas{d:TypeDesc}{c:Value}:∀{en:List MapEntry} (i:Nat),(∀e∈en,∃b,a! d c e.key=some b)->∃q,t! d c en i=some q/\(match q with
  |none=>∀e∈en,a! d c e.key=some false
  |some (j,u)=>∃n e,j=i+n/\en[n]?=some e/\u=e.val/\a! d c e.key=some true)
 | [],i,_=>⟨none,rfl,λe s=>by cases s⟩
 |e::en,i,h=>by
  obtain⟨b,hb⟩:=h e (by simp);cases b with
  |true=>exact⟨some (i,e.val),by unfold t!;rw[hb],0,e,rfl,rfl,rfl,hb⟩
  |false=>
   obtain⟨q,k,g⟩:=aas (d:=d) (c:=c) (en:=en) (i+1) λf a=>h f (List.mem_cons_of_mem _ a);refine⟨q,by unfold t!;rw[hb];exact k,?_⟩;cases q with
   |none=>
    intro f a;rcases List.mem_cons.1 a with rfl|a
    ·exact hb
    ·exact g f a
   |some p=>
    obtain⟨j,u⟩:=p;obtain⟨n,e1,rfl,l,m,o⟩:=g;exact⟨n+1,e1,by omega,l,m,o⟩
def find_ok{d:TypeDesc}{x:V}{c:Value}{es:List (V×V)}{l en:List MapEntry}{o:Option V}(H:mG d x=true)(I:Rp M x c)(O:l! l en)(t:jd M es l)(hd:ig es)(e:lJ x es=some o):
  ∃q,t! d c en 0=some q/\(match o,q with
   |none,none=>True
   |some v,some (j,u)=>Rp M v u/\∃(n:Nat) (e0:MapEntry),es[n]?=some (x,v)/\l[n]?=some e0/\en[j]?=some e0/\e0.key=c/\∀(P:Program) (w:World),(k! c c).run P w=.ok c w
   |_,_=>False):=by
 cases o with
 |none=>
  have a:∀e0∈en,a! d c e0.key=some false:=λe0 f=>by
   obtain⟨n,hn,N⟩:=C! (O.mem_iff.2 f);obtain⟨k,v,g,z,E⟩:=t.get (n:=n) (e:=e0) (by rw[j! hn,N]);exact aao H I z (SH e n k v g)
  obtain⟨q,g,z⟩:=aas (d:=d) (c:=c) (en:=en) 0 λe0 f=>⟨_,a e0 f⟩
  refine⟨q,g,?_⟩;cases q with
  |none=>trivial
  |some p=>
   obtain⟨j,u⟩:=p;obtain⟨n,e1,_,E,_,S⟩:=z;rw[a e1 (h! E)]at S;cases S
 |some v=>
  obtain⟨n,g,z,_⟩:=aat e;have C:=hd.others g;have a:∀(m:Nat) (e0:MapEntry),l[m]?=some e0->(m=n->a! d c e0.key=some true)/\(m≠n->a! d c e0.key=some false):=λm e0 B=>by
   obtain⟨k,v',y,D,K⟩:=t.get B;refine⟨λb=>?_,λb=>aao H I D (C m k v' b y)⟩;subst b;rw[g]at y;cases y;exact aao H I D z
  have i:∀e0∈en,∃m:Nat,l[m]?=some e0:=λe0 f=>by
   obtain⟨m,B,L⟩:=C! (O.mem_iff.2 f);exact⟨m,by rw[j! B,L]⟩
  obtain⟨q,E,Q⟩:=aas (d:=d) (c:=c) (en:=en) 0 λe0 f=>by
   obtain⟨m,B⟩:=i e0 f;by_cases b:m=n
   ·exact⟨_,(a m e0 B).1 b⟩
   ·exact⟨_,(a m e0 B).2 b⟩
  obtain⟨e2,J,W,X⟩:=t.at g;refine⟨q,E,?_⟩;cases q with
  |none=>
   have:=Q e2 (O.mem_iff.1 (h! J));rw[(a n e2 J).1 rfl]at this;cases this
  |some p=>
   obtain⟨j,u⟩:=p;obtain⟨m,e1,hj,y,D,K⟩:=Q;obtain⟨m',s⟩:=i e1 (h! y);have b:m'=n:=by
    by_cases b:m'=n
    ·exact b
    ·rw[(a m' e1 s).2 b]at K;cases K
   subst b;rw[J]at s;cases s;have hk:e2.key=c/\∀(P:Program) (w:World),(k! c c).run P w=.ok c w:=by
    have U:∀(P:Program) (w:World),e2.key=c/\(k! e2.key c).run P w=.ok c w:=λP w=>aCy H I W z;have h0:=(U default default).1;exact⟨h0,λP w=>by have:=(U P w).2;rw[h0]at this;exact this⟩
   refine⟨by rw[D];exact X,m',e2,g,J,?_,hk.1,hk.2⟩;rw[hj,Nat.zero_add];exact y
def set_perm{α:Type}{l m:List α}{n j:Nat}{a b:α}(o:l! l m)(hl:l[n]?=some a)(g:m[j]?=some a):l! (l.set n b) (m.set j b):=by
 have key:∀{k:List α} {i:Nat},k[i]?=some a->l! k (a::k.eraseIdx i)/\l! (k.set i b) (b::k.eraseIdx i):=by
  intro k;induction k with
  |nil=>intro i hi;simp at hi
  |cons x k p=>
   intro i hi;cases i with
   |zero=>simp at hi;subst hi;exact⟨J! _,J! _⟩
   |succ i=>
    simp at hi;obtain⟨c,d⟩:=p hi;exact⟨(c.cons x).trans (I! _ _ _),(d.cons x).trans (I! _ _ _)⟩
 obtain⟨c,d⟩:=key hl;obtain⟨e,f⟩:=key g;have:l! (l.eraseIdx n) (m.eraseIdx j):=((c.symm.trans o).trans e).cons_inv;exact d.trans ((this.cons b).trans f.symm)
def Sm{b:Nat}{en:Array MapEntry}{a:Nat}(o:Obj)(hb:w.heap[b]?=some (.map en a)):(setObj b o).run P w=.ok () {w with heap:=w.heap.setIfInBounds b o}:=by
 simp[setObj,r?,hb]
def aCm{i:Pos}{es:List (V×V)}{L:Loc}(e:Rel G M h w)(hi:h.get i=some (.map es))(c:M i=some L):∃en b,w.heap[L.blk]?=some (.map en b)/\wG M es en b:=by
 obtain⟨f,a,en,b,hb,d⟩:=e.ob i _ hi;rw[c]at a;cases a;exact⟨en,b,hb,d⟩
def aD6{t X B:TypeId}{d:TypeDesc}{W:TypeInfo}{s:Value}{z m x:V}{y k:Value}{ok:Bool}(ht:P.underlying t=some (.map X B))(hd:P.underlying X=some d)(D:P.info? B=some W)(J:W.zero=some s)(U:const s=some z)
  (K:mG d x=true) (H:Rel G M h w) (O:Rp M m y) (hx:Rp M x k) (e:LH ok z m x h=.ok r h'):Good P G M h w (n! t y k ok) r h':=by
 have fin:∀(v:V) (c:Value) (b:Bool),Rp M v c->ahl ok v b h=.ok r h'->(n! t y k ok).run P w=.ok (if ok then .tuple #[c,.bool b] else c) w->Good P G M h w (n! t y k ok) r h':=by
  intro v c b S e a;cases ok with
  |true=>
   cases e;exact .same H a (auv (vs:= [v,.bool b]) (xs:= [c,.bool b]) ⟨_,_,S,⟨_,_,zl M b,rfl,rfl⟩,rfl⟩)
  |false=>cases e;exact .same H a S
 have n:(zeroValue B).run P w=.ok s w:=by simp[zeroValue,typeInfo,D,J]
 have f:=λb=>PY (w:=w) hd K k b;unfold LH at e;split at e
 ·cases O.jM;refine fin z s false (UB U M) e ?_;unfold n!;simp[run_underlying ht,f,u!,run_underlying hd,t!,n]
 ·rename_i i;obtain⟨L,Z,rfl⟩:=O.map;split at e
  ·rename_i es C;obtain⟨en,Y,hb,⟨l,hp,I⟩,E,_⟩:=aCm H C Z;have N:(getObj L.blk).run P w=.ok (.map en Y) w:=by simp[getObj,r?,hb]
   unfold ahm at e;split at e
   ·rename_i o ho;obtain⟨q,Q,g⟩:=find_ok K hx hp I E ho;split at e
    ·rename_i v;cases q with
     |none=>exact g.elim
     |some p=>
      obtain⟨j,u⟩:=p;refine fin v u true g.1 e ?_;unfold n!;simp[run_underlying ht,N,f,u!,run_underlying hd,Q]
    ·cases q with
     |some p=>exact g.elim
     |none=>
      refine fin z s false (UB U M) e ?_;unfold n!;simp[run_underlying ht,N,f,u!,run_underlying hd,Q,n]
   ·cases e
  ·cases e
 ·cases e
def aCn{t:TypeId}(a:Rel G M h w)(e:Z8 h=.ok r h'):Good P G M h w (i? t none) r h':=by
 cases e;have:=a.new (.map []) (.map #[] 0) 0 (w':=w.alloc (.map #[] 0)) rfl rfl rfl rfl (λN _=>⟨#[],0,(by show(w.heap.push _)[w.heap.size]?=_;simp),wG.nil N⟩);exact⟨.map (some w.heap.size),_,_,by simp[i?],⟨rfl,_,M.fB _ _,rfl⟩,this.1,this.2.1⟩
def avg{t kt et:TypeId}{d:TypeDesc}{m x y:V}{cm g E:Value}(ht:P.underlying t=some (.map kt et))(hd:P.underlying kt=some d)
  (hf:mG d x=true) (hr:Rel G M h w) (hm:Rp M m cm) (hx:Rp M x g) (hy:Rp M y E) (e:xQ m x y h=.ok r h'):
  ∃w',(z! t cm g E).run P w=.ok () w'/\r=V.undef/\Rel G M h' w'/\Ext M h w M h' w':=by
 unfold xQ at e;split at e
 ·rename_i i;obtain⟨L,hL,rfl⟩:=hm.map;split at e
  ·rename_i es W;obtain⟨en,O,hb,⟨l,hp,I⟩,B,c,Z⟩:=aCm hr W hL;have ag:L.blk<w.heap.size:=(P!.1 hb).1;have hg:(getObj L.blk).run P w=.ok (.map en O) w:=by simp[getObj,r?,hb]
   split at e
   ·rename_i K X;cases e;have turn:∀(o:Array MapEntry) (s:Nat),wG M K o s->Rel G M (h.put i (some (.map K))) {w with heap:=w.heap.setIfInBounds L.blk (.map o s)}/\Ext M h w M (h.put i (some (.map K))) {w with heap:=w.heap.setIfInBounds L.blk (.map o s)}:=by
     intro o s D;exact hr.turn W hL rfl (by simp) (λk hk=>by simp[Array.getElem?_setIfInBounds_ne (Ne.symm hk)]) rfl rfl rfl ⟨o,s,by simp[ag],D⟩
    have U:=PY (w:=w) hd hf g false;rcases azn X with⟨z,rfl⟩|⟨n,v,z,hn,rfl⟩
    ·obtain⟨q,hq,H⟩:=find_ok hf hx hp I B z;cases q with
     |some p=>exact H.elim
     |none=>
      have D:wG M (es++ [(x,y)]) (en.push {key:=g,val:=E,born:=O}) (O+1):=by
       refine⟨⟨l++ [{key:=g,val:=E,born:=O}],by rw[b?];exact hp.append_right _,jd.snoc hx hy I⟩,B.snoc λn k v hn=>SH z n k v hn,λe0 f=>?_,?_⟩
       ·simp at f;rcases f with f|rfl
        ·have:=c e0 (by simpa using f);omega
        ·simp
       ·simp only[b?,L!,List.map_cons,List.map_nil];rw[List.nodup_append];refine⟨Z,by simp,λa ha b Q=>?_⟩;simp at Q;subst Q;obtain⟨e0,f,rfl⟩:=F!.1 ha;have:=c e0 f
        omega
      obtain⟨t1,t2⟩:=turn _ _ D;refine⟨_,?_,rfl,t1,t2⟩;unfold z!;simp[run_underlying ht,hg,U,u!,run_underlying hd,hq,Sm _ hb]
    ·obtain⟨q,hq,H⟩:=find_ok hf hx hp I B z;cases q with
     |none=>exact H.elim
     |some p=>
      obtain⟨j,u⟩:=p;obtain⟨_,J,e0,k1,k2,k3,k4,k5⟩:=H;have ai:J=n:=by
       by_cases aa:J=n
       ·exact aa
       ·have:=B.others hn J x v aa k1;obtain⟨_,_,h2,_⟩:=aat z;rw[h2]at this;cases this
      subst ai;have ae:en[j]?=some e0:=by rw[<-Array.getElem?_toList];exact k3
      have D:wG M (es.set J (x,y)) (en.modify j λe=>{e with key:=g,val:=E}) O:=by
       have ah:(en.modify j λe=>{e with key:=g,val:=E}).toList=en.toList.set j {e0 with key:=g,val:=E}:=by
        rw[Z!];apply H!;intro k;rw[X!,d?];by_cases Y:j=k
        ·subst Y;have C:j<en.toList.length:=(i!.1 k3).1;simp only[if_true,k3,if_pos C];rfl
        ·simp only[Y,if_false];cases en.toList[k]?<;>rfl
       have S:(en.modify j λe=>{e with key:=g,val:=E}).toList.map (·.born)=en.toList.map (·.born):=by
        rw[Z!];apply H!;intro k;simp only[G!,X!];split<;>(cases en.toList[k]?<;>rfl)
       have N:(es.set J (x,y)).map (·.1)=es.map (·.1):=by
        rw[List.map_set];apply H!;intro k;rw[d?];by_cases ab:J=k
        ·subst ab;have C:J<(es.map (·.1)).length:=by simpa using (i!.1 hn).1
         rw[if_pos rfl,if_pos C,G!,hn];rfl
        ·rw[if_neg ab]
       refine⟨⟨l.set J {e0 with key:=g,val:=E},by rw[ah];exact set_perm hp k2 k3,jd.set hx hy J I⟩,by unfold ig;rw[N];exact B,λe1 ac=>?_,by rw[S];exact Z⟩;have:e1.born∈en.toList.map (·.born):=by rw[<-S];exact List.mem_map_of_mem ac
       obtain⟨e2,ad,h3⟩:=F!.1 this;rw[<-h3];exact c e2 ad
      obtain⟨t1,t2⟩:=turn _ _ D;refine⟨_,?_,rfl,t1,t2⟩;unfold z!;have af:(((en[j]?).map (·.key)).getD g)=g:=by rw[ae];exact k4
      simp only[d!,run_underlying ht,c!,hg,U,u!,run_underlying hd,hq,q?,af,k5,Sm _ hb]
   ·cases e
  ·cases e
 ·cases e
def Rel.perm{i:Pos}{es d:List (V×V)}(c:Rel G M (h.put i (some (.map es))) w)(q:l! es d):Rel G M (h.put i (some (.map d))) w:=by
 have key:∀{j:Pos} {o:Ob},(h.put i (some (.map d))).get j=some o->∃o',(h.put i (some (.map es))).get j=some o'/\o'.own=o.own:=λ{j o} hj=>by
  by_cases e:j=i
  ·subst e;rw[Hp.dQ]at hj;cases hj;exact⟨_,Hp.dQ _ _ _,rfl⟩
  ·rw[Hp.dw _ e]at hj;exact⟨o,by rw[Hp.dw _ e];exact hj,rfl⟩
 refine⟨λj o hj=>?_,c.fresh,λa b o p L K hn C hb D f B=>?_,c.gl⟩
 ·by_cases e:j=i
  ·subst e;rw[Hp.dQ]at hj;cases hj;obtain⟨L,f,en,s,hb,⟨l,v,x⟩,y,z⟩:=c.ob j _ (Hp.dQ _ _ _);obtain⟨k,t,u⟩:=x.perm q;exact⟨L,f,en,s,hb,⟨k,t.trans v,u⟩,y.perm q,z⟩
  ·rw[Hp.dw _ e]at hj;exact c.ob j o (by rw[Hp.dw _ e];exact hj)
 ·obtain⟨o',g,n⟩:=key C;obtain⟨E,m,_⟩:=key hb;exact c.sep a b o' E L K hn g m (by rw[n];exact D) f B
def Ext.perm{M':Mp}{w':World}{a:Hp}{i:Pos}{es f:List (V×V)}(x:Ext M h w M' (a.put i (some (.map es))) w'):Ext M h w M' (a.put i (some (.map f))) w':=by
 have key:∀{j:Pos} {o:Ob},(a.put i (some (.map f))).get j=some o->∃o',(a.put i (some (.map es))).get j=some o'/\o'.own=o.own:=λ{j o} hj=>by
  by_cases e:j=i
  ·subst e;rw[Hp.dQ]at hj;cases hj;exact⟨_,Hp.dQ _ _ _,rfl⟩
  ·rw[Hp.dw _ e]at hj;exact⟨o,by rw[Hp.dw _ e];exact hj,rfl⟩
 refine⟨x.le,x.next,x.os,x.tape,x.output,x.size,x.same,λj o L hj g c=>?_,λj hj hn=>?_,λj o L hj c=>?_,x.none⟩
 ·obtain⟨o',b,d⟩:=key hj;exact x.own j o' L b (by rw[d];exact g) c
 ·have a:=x.old j hj hn;by_cases e:j=i
  ·subst e;rw[Hp.dQ]at a;cases a
  ·rw[Hp.dw _ e]at a⊢;exact a
 ·obtain⟨o',b,_⟩:=key hj;exact x.all j o' L b c
def auI(d:TypeDesc):Bool:=match d with| .int _| .string| .bool=>true|_=>false
def FW(P:Program):List Field->Option (List (TypeDesc×Nat))
 | []=>some []
 |f::l=>(match decide (f.name= "_") with
  |true=>FW P l
  |false=>(match P.underlying f.type with
   |some d=>(match auI d,FW P l with|true,some r=>some ((d,f.offset)::r)|_,_=>none)
   |none=>none))
def N7:List (TypeDesc×Nat)->List V->List V->Option Bool
 | [],_,_=>some true
 |(d,o)::l,xs,ys=>(match LK o xs,LK o ys with
  |some x,some y=>(match mG d x,iL x y with
   |true,some b=>(match b with|true=>N7 l xs ys|false=>some false)
   |_,_=>none)
  |_,_=>none)
def aEl{t:TypeId}{d:TypeDesc}(hd:P.underlying t=some d){x y:V}{c e:Value}{b:Bool}(l:mG d x=true)(g:Rp M x c)(i:Rp M y e)(hb:iL x y=some b)(n:Nat):(r! (n+1) t c e).run P w=.ok b w:=by
 have f:=aao l g i hb;cases d<;>cases x<;>first|(cases l;done)|skip
 all_goals cases y<;>first|(cases hb;done)|skip
 ·cases g.bool;cases i.bool;simp[a!]at f;simp[r!,run_underlying hd,f]
 ·cases g.int;cases i.int;rename_i k a m a';simp only[a!]at f;split at f
  ·rename_i hk;subst hk;simp at f;simp[r!,run_underlying hd,f]
  ·cases f
 ·cases g.str.2;cases i.str.2;simp only[a!]at f;have j:=D! f;simp only[r!,d!,run_underlying hd,c!,q?,j]
def aB0{t:TypeId}{d:TypeDesc}(hd:P.underlying t=some d)(a:auI d=true):(isAgg t).run P w=.ok false w:=by
 simp only[isAgg,d!,run_underlying hd,c!];cases d<;>first|rfl|cases a
def auK{t:TypeId}{d:TypeDesc}(hd:P.underlying t=some d)(b:auI d=true){xs:Array Value}{o:Nat}{c:Value}(a:xs[o]?=some c):(part t xs o).run P w=.ok c w:=by
 unfold part;rw[d!,aB0 hd b];simp[a]
def Yt(n:Nat)(xs ys:Array Value)(f:Field)(_:Option Bool×Unit):Sem (ForInStep (Option Bool×Unit)):=
 if f.name≠ "_" then do
  if !(<-r! (n+1) f.type (<-part f.type xs f.offset) (<-part f.type ys f.offset)) then pure (a? (some false,()))
  else pure (v! (none,()))
 else pure (v! (none,()))
def avC{xs ys:List V}{cs ds:List Value}(p:bY M xs cs)(q:bY M ys ds)(n:Nat):∀{l:List Field} {a:List (TypeDesc×Nat)} {b:Bool},FW P l=some a->N7 a xs ys=some b->
  (forIn l (none,()) (Yt n cs.toArray ds.toArray)).run P w=.ok (if b then(none,()) else(some false,())) w
 | [],a,b,g,hb=>by cases g;cases hb;rfl
 |f::l,a,b,g,hb=>by
  unfold FW at g;rw[List.forIn_cons,d!];split at g
  ·rename_i hn;have i:f.name= "_" :=by simpa using hn
   have:(Yt n cs.toArray ds.toArray f (none,())).run P w=.ok (v! (none,())) w:=by simp[Yt,i]
   rw[this];exact avC p q n g hb
  ·rename_i hn;have i:¬f.name= "_" :=by simpa using hn
   split at g
   ·rename_i d hd;split at g
    ·rename_i r s z;cases g;unfold N7 at hb;rw[oz,oz]at hb;split at hb
     ·rename_i x y j k;obtain⟨c,t,m⟩:=p.get j;obtain⟨e,u,o⟩:=q.get k;have B:(part f.type cs.toArray f.offset).run P w=.ok c w:=auK hd s (by simpa using t);have C:(part f.type ds.toArray f.offset).run P w=.ok e w:=auK hd s (by simpa using u);split at hb
      ·rename_i b' v hk;have D:=aEl (w:=w) hd v m o hk n;have:(Yt n cs.toArray ds.toArray f (none,())).run P w=.ok (if b' then v! (none,()) else a? (some false,())) w:=by
        unfold Yt;rw[if_pos i];simp only[d!,B,C,D,c!];cases b'<;>rfl
       rw[this];cases b' with
       |true=>exact avC p q n z hb
       |false=>cases hb;rfl
      ·cases hb
     ·cases hb
    ·cases g
   ·cases g
def aEm{t:TypeId}{c:Array Field}(hd:P.underlying t=some (.struct c))(e:P.stoodInHeld t=false){a:List (TypeDesc×Nat)}(d:FW P c.toList=some a){xs ys:List V}{cs ds:List Value}(f:bY M xs cs)(g:bY M ys ds){b:Bool}(hb:N7 a xs ys=some b)(n:Nat):
  (r! (n+1+1) t (.agg cs.toArray) (.agg ds.toArray)).run P w=.ok b w:=by
 unfold r!;simp only[d!,run_underlying hd,c!,run_program,e];simp only[Bool.false_eq_true,if_false];rw[<-Array.forIn_toList];have hl:=avC (w:=w) f g n d hb;unfold Yt at hl;rw[d!,hl];cases b<;>rfl
def structOf(d:TypeDesc):Option (Array Field):=match d with| .struct a=>some a|_=>none
def Yx(P:Program)(op:BinOp)(t:TypeId)(c:Array Field)(x y:V)(h:Hp):R V:=match x,y with
 | .agg xs,.agg ys=>(match P.stoodInHeld t,P.eqGuardType P.depth t,FW P c.toList with
  |false,false,some a=>(match N7 a xs.list ys.list with
   |some b=>(match op with| .eql=>fH b h| .neq=>fH (not b) h|_=>.bad)
   |none=>.bad)
  |_,_,_=>.bad)
 |_,_=>.bad
def aEB{op:BinOp}{t:TypeId}{i:Array Field}{u v:Operand}(hd:P.underlying t=some (.struct i)){x y:V}{a b:Value}(k:Rel G M h w)(p:Rp M x a)(s:Rp M y b)(e:Yx P op t i x y h=.ok r h'):
  Good P G M h w (do eqGuard op t u v a b;binOp op t a b) r h':=by
 unfold Yx at e;split at e
 ·rename_i xs ys;obtain⟨cs,f,_,rfl⟩:=p.agg;obtain⟨ds,g,_,rfl⟩:=s.agg;split at e
  ·rename_i l m j n;split at e
   ·rename_i q o;have d:=aEm (w:=w) hd m n f g o 9998;have heq:(Op.equal t (.agg cs.toArray) (.agg ds.toArray)).run P w=.ok q w:=by
     unfold Op.equal;rw[show Op.maxDepth=9998+1+1 from rfl];exact d
    split at e
    ·rw[fU]at e;cases e;refine .same k (c:=.bool q) ?_ (zl M q);simp[eqGuard,binOp,j,heq]
    ·rw[fU]at e;cases e;refine .same k (c:=.bool (!q)) ?_ (zl M _);simp[eqGuard,binOp,j,heq]
    ·cases e
   ·cases e
  ·cases e
 ·cases e
def apd(x:V)(h:Hp):R V:=match x with
 | .aQ=>.ok (.int .i64 (.ofNat 0)) h
 | .slice _ _ _ c=>(match c with| .kn n=>.ok (.int .i64 (.ofNat n)) h| .un _=>.bad)
 |_=>.bad
def aEy{t ty el:TypeId}(hd:P.underlying t=some (.slice el)){x:V}{a:Value}(b:Rel G M h w)(d:Rp M x a)(e:apd x h=.ok r h'):Good P G M h w (Q! #[t] ty #[a]) r h':=by
 unfold apd at e;split at e
 ·cases e;cases d.aQ;refine .same b (c:=.int .i64 (.ofNat 0)) ?_ (gU M _ _);simp[Q!,run_underlying hd,goInt]
 ·rename_i i o n c;obtain⟨L,k,g,f,rfl⟩:=d.slice;split at e
  ·rename_i m;cases e;obtain⟨rfl,_⟩:=f;refine .same b (c:=.int .i64 (.ofNat k)) ?_ (gU M _ _);simp[Q!,run_underlying hd,goInt]
  ·cases e
 ·cases e
def ami(sz:Nat)(d s:V)(h:Hp):R V:=match d with
 | .slice i o n _=>qK sz s h λm new=>(match e? m n with
  |true=>(match m with
   |0=>.ok (.int .i64 (.ofNat 0)) h
   |_+1=>dR h i λwr cs=>(match wr with
    | .rw t f=>(match jK o new cs with|some a=>.ok (.int .i64 (.ofNat m)) (h.put i (some (.cells (.rw t f) a)))|none=>.bad)
    | .ro=>.bad))
  |false=>.bad)
 |_=>.bad
def aui{t t2 ty el:TypeId}{ti:TypeInfo}(hd:P.underlying t=some (.slice el))(d:P.info? el=some ti){a:Addr}{n k m:Nat}{c:Value}{news:List Value}(hl:(Builtin.lenOf c).run P w=.ok m w)(e:(Builtin.firstCells ti.size m c).run P w=.ok news.toArray w)(f:m<=n){w':World}
  (g:(storeCells a news).run P w=.ok () w'):(O! #[t,t2] ty #[.slice (some a) n k,c]).run P w=.ok (.int .i64 (.ofNat m)) w':=by
 have b:Nat.min m n=m:=Nat.min_eq_left f;simp only[O!,List.getElem?_toArray,List.getElem?_cons_zero,List.getElem?_cons_succ,d!,run_underlying hd,c!,hl,b,sizeOf,typeInfo];simp[d,e,g,goInt]
def aJK{t t2 ty el:TypeId}{ti:TypeInfo}(hd:P.underlying t=some (.slice el))(j:P.info? el=some ti){x y:V}{a b:Value}(u:Rel G M h w)(E:Rp M x a)(H:Rp M y b)(e:ami ti.size x y h=.ok r h'):Good P G M h w (O! #[t,t2] ty #[a,b]) r h':=by
 unfold ami at e;split at e
 ·rename_i i o n cap;obtain⟨L,k,C,I,rfl⟩:=E.slice;obtain⟨m,new,news,e,d,f,p,s,c⟩:=ah8 (P:=P) u H e;split at e
  ·rename_i l;have l:=p! l;have g:=f.length;cases m with
   |zero=>
    cases e;have q:news= []:=List.length_eq_zero_iff.1 (by rw[g,p];omega);subst q;exact .same u (aui hd j d (c w rfl) l (by simp[storeCells])) (gU M _ _)
   |succ m=>
    simp only[]at e;obtain⟨wr,cs,hi,e⟩:=gG e;split at e
    ·split at e
     ·rename_i D;cases e;obtain⟨w',v,z,B⟩:=u.store (P:=P) (qL hi) C D f s;exact⟨_,w',M,aui hd j d (c w rfl) l v,gU M _ _,z,B⟩
     ·cases e
    ·cases e
  ·cases e
 ·cases e
def XY(zs:List V)(x:V)(h:Hp):R V:=match x with
 | .aQ=>.ok V.undef h
 | .slice i o n _=>(match n with
  |0=>.ok V.undef h
  |m+1=>dR h i λwr cs=>(match wr with
   | .rw t f=>(match jK o (times (m+1) zs) cs with|some a=>.ok V.undef (h.put i (some (.cells (.rw t f) a)))|none=>.bad)
   | .ro=>.bad))
 |_=>.bad
def aG7{t ty el:TypeId}{ti:TypeInfo}{z:Value}(hd:P.underlying t=some (.slice el))(E:ElemOk P el ti z){zs:List V}(d:bY M zs z.cells.toList){x:V}{a:Value}(c:Rel G M h w)(g:Rp M x a)(e:XY zs x h=.ok r h'):
  Good P G M h w (A! #[t] ty #[a]) r h':=by
 unfold XY at e;split at e
 ·cases e;cases g.aQ;exact .same c (by simp[A!,run_underlying hd];rfl) (lH M)
 ·rename_i i o n cap;obtain⟨L,k,p,s,rfl⟩:=g.slice;split at e
  ·cases e;exact .same c (by simp[A!,run_underlying hd];rfl) (lH M)
  ·rename_i m;obtain⟨wr,cs,hi,e⟩:=gG e;split at e
   ·split at e
    ·rename_i q;cases e;have b:(b! z.cells (m+1)).toList=(o! (m+1) z.cells.toList).flatten:=by
      unfold b!;exact EW z.cells (m+1) (by rw[E.cells];exact E.size)
     obtain⟨w',f,j,l⟩:=c.store (P:=P) (qL hi) p q (FQ d (m+1)) (by rw[<-b];exact PS E.plain (by rw[E.cells];exact E.size) (m+1));refine⟨_,w',M,?_,lH M,j,l⟩;rw[<-b]at f;simp[A!,run_underlying hd,zeroValue,typeInfo,E.info,E.zero,f];rfl
    ·cases e
   ·cases e
 ·cases e
def au7(el:TypeId)(sz bt:Nat)(zs:List V)(s x:V)(h:Hp):R V:=lS x λn=>
 match e? (Nat.mul n bt) 140737488355328 with
 |true=>ahy el sz bt s n (times n zs) h
 |false=>.bad
def alO{z:Array Value}(a:0<z.size)(n:Nat):(b! z n).toList=(o! n z.toList).flatten:=by
 unfold b!;exact EW z n a
def aC3{t t2 ty el:TypeId}{kd:IntKind}{ti:TypeInfo}{z:Value}(ht:P.underlying t=some (.slice el))(m:P.underlying t2=some (.int kd))(E:ElemOk P el ti z){zs:List V}(C:bY M zs z.cells.toList)
  {s x:V} {a c:Value} (Q:Rel G M h w) (S:Rp M s a) (U:Rp M x c) (e0:au7 el ti.size ti.bytes zs s x h=.ok r h'):Good P G M h w (x! #[t,t2] ty #[a,c]) r h':=by
 obtain⟨kk,n,rfl,e⟩:=pR e0;clear e0;cases U.int;split at e;rotate_left
 ·cases e
 rename_i hb;have L:n*ti.bytes<=140737488355328:=p! hb;have hn:n<=n*ti.bytes:=T! _ E.bytes;have H:IntKind.i64.wrap (n:Int)=n:=wrap_in (by omega) (by omega);have h0:¬((n:Int)<0):=by omega
 have D:¬(281474976710656<(n:Int)*(ti.bytes:Int)):=by
  have:((n*ti.bytes:Nat):Int)<=140737488355328:=by omega
  rw[Int.natCast_mul]at this;omega
 have i:∀(k:IntKind) (w':World),(Go.asInt (Value.int k (n:Int))).run P w'=.ok (n:Int) w':=λ_ _=>rfl;have d:=FQ C n;have b:=alO (z:=z.cells) (by rw[E.cells];exact E.size) n;have l:(times n zs).length=n*ti.size:=by
  have J:(b! z.cells n).toList.length=n*ti.size:=by simp[b!,E.cells]
  rw[<-J,b];exact d.length.symm
 have o:(if n*ti.size=0 then(pure #[]:Sem (Array Value)) else pure (b! z.cells n))=pure (o! n z.cells.toList).flatten.toArray:=by
  split
  ·rename_i h;have:n=0:=(N!.1 h).resolve_right (by have:=E.size;omega);subst this;rfl
  ·rw[<-b]
 refine aij (news:=(o! n z.cells.toList).flatten) E Q S d l (by rw[<-b];exact PS E.plain (by rw[E.cells];exact E.size) n) (λ{base k cap} j=>?_) (λ{I base k cap} N q hbb p=>?_) e
 ·have W:∀w':World,(if n*ti.size=0 then(pure #[]:Sem (Array Value)) else pure (b! z.cells n)).run P w'=.ok (o! n z.cells.toList).flatten.toArray w':=λw'=>by rw[o];rfl
  cases base<;>simp[x!,run_underlying ht,run_underlying m,sizeOf,typeInfo,zeroValue,E.info,E.zero,i,H,h0,D,j];all_goals (
   by_cases y:n=0
   ·subst y;simp
   ·have v:¬(n*ti.size=0):=λh=>(N!.1 h).elim y (by have:=E.size;omega);simp[v,y,b])
 ·have u:¬(k+n<=cap):=by omega
  have j:k+n<=(k+n)*ti.bytes:=T! _ p;have g:¬(9223372036854775807<((k:Int)+(n:Int))):=by omega
  have K:=growslice_fits (bytes:=ti.bytes) q hbb;have f:¬(281474976710656<Builtin.nextslicecap (k+n) cap*ti.bytes):=by omega
  simp[x!,run_underlying ht,run_underlying m,sizeOf,typeInfo,zeroValue,E.info,E.zero,i,H,h0,D,u,g,f,Question.forced,N,newRow,grownCap];have B:b! z.cells n=(o! n z.cells.toList).flatten.toArray:=by apply g!;rw[b]
  split
  ·rename_i O;have:n=0:=(N!.1 O).resolve_right (by have:=E.size;omega);subst this;simp
  ·rw[B];congr 3;apply g!;simp
def CW(x:V)(h:Hp):R V:=match x with
 | .aQ=>.ok .cZ h
 | .slice i o n _=>(match n with|0=>.bad|_+1=>.ok (.ptr i o) h)
 |_=>.bad
def auc{ts:Array TypeId}{ty:TypeId}{x:V}{a:Value}(b:Rel G M h w)(c:Rp M x a)(e:CW x h=.ok r h'):Good P G M h w (Builtin.unsafeSliceData_ ts ty #[a]) r h':=by
 unfold CW at e;split at e
 ·cases e;cases c.aQ;exact .same b (Go.Lib.run_unsafeSliceData_nil w ts ty 0 0) ⟨rfl,rfl⟩
 ·rename_i i o n cap;obtain⟨L,k,d,f,rfl⟩:=c.slice;split at e
  ·cases e
  ·rename_i m;cases e;refine .same b (Go.Lib.run_unsafeSliceData_row w ts ty (L.at o) (m+1) k ?_) (yL d o);cases cap<;>simp only[ahQ]at f<;>omega
 ·cases e
def Ij(u:TypeId)(x n:V)(h:Hp):R V:=lS n λn=>match x with
 | .cZ=>(match n with|0=>.ok (.str []) h|_+1=>.bad)
 | .ptr i o=>(match n with
  |0=>.ok (.str []) h
  |_+1=>dR h i λwr cs=>(match wr with
   | .rw t _=>(match q! t u with
    |true=>(match gJ n (fG o cs) with
     |some l=>(match tq l with
      |some s=>(match e? s.length 9223372036854775807 with|true=>.ok (.str s) (h.put i (some (.cells .ro cs)))|false=>.bad)
      |none=>.bad)
     |none=>.bad)
    |false=>.bad)
   | .ro=>.bad))
 |_=>.bad
def amo{e:TypeId}(a:P.cellsOf e=1)(count off n:Nat)(hn:off+n<=count):liesAt P P.depth e count off e n=true:=by
 have hd:P.depth=(2*(P.types.size+Made.depth)+1)+1:=rfl;rw[hd];simp only[liesAt,Bool.or_eq_true];left;rw[hd];simp[rowAt,a,hn,sameLayout,Nat.mod_one]
def ad5{pt it ty e:TypeId}(p:P.underlying pt=some (.pointer e))(n:P.cellsOf e=1){g off cells:Nat}(m:w.shape? g=some (e,cells)){l:List UInt8}(h0:l≠ [])(hn:off+l.length<=cells)(o:l.length<=9223372036854775807)
  (a:∀j x,l[j]?=some x->w.cell? ((⟨g,off,none⟩:Addr).add j)=some (.int .u8 x.toNat)) {k:IntKind}:
  (y! #[pt,it] ty #[.pointer (some ⟨g,off,none⟩),.int k l.length]).run P w=.ok (.string ⟨l.toArray⟩) (w.freeze ⟨g,off,none⟩ l.length):=by
 have hl:l.length≠0:=by simpa using h0
 have i:=Go.Lib.run_loadBytes (P:=P) w l ⟨g,off,none⟩ .empty a;have b:=amo (P:=P) n (cells / P.cellsOf e) off l.length (by rw[n];simpa using hn);have c:¬(9223372036854775807:Int)<(l.length:Int):=by omega
 have d:IntKind.i64.max=9223372036854775807:=rfl;have f:¬(l.length:Int)<0:=by omega
 show(bind (_root_.Go.asInt (.int k l.length)) _:Sem Value).run P w=_;simp[_root_.Go.asInt,asIntOf,d,c,f,hl,variablesAt,m,elemOf,run_underlying p,b,i]
def atP{pt it ty u:TypeId}(hp:P.underlying pt=some (.pointer u))(W:P.cellsOf u=1){x y:V}{a b:Value}(K:Rel G M h w)(hx:Rp M x a)(hy:Rp M y b)(e:Ij u x y h=.ok r h'):
  Good P G M h w (y! #[pt,it] ty #[a,b]) r h':=by
 obtain⟨k,n,rfl,e1⟩:=pR e;clear e;cases hy.int;have v:∀p:Option Addr,(y! #[pt,it] ty #[.pointer p,.int k (Int.ofNat 0)]).run P w=.ok (.string .empty) w:=by
  intro p;have af:IntKind.i64.max=9223372036854775807:=rfl;cases p with
  |none=>
   rfl
  |some a=>
   rfl
 have he:Rp M (.str []) (.string .empty):=Ub (s:= []) (by simp);split at e1
 ·cases hx.cZ;split at e1
  ·cases e1;exact .same K (v _) he
  ·cases e1
 ·rename_i i o;obtain⟨L,U,rfl⟩:=hx.ptr;split at e1
  ·cases e1;exact .same K (v _) he
  ·rename_i m;obtain⟨wr,cs,hi,e2⟩:=gG e1;split at e2
   ·rename_i t f;split at e2
    ·rename_i ac;have N:t=u:=e! ac;subst N;split at e2
     ·rename_i l hl;split at e2
      ·rename_i s hs;split at e2;rotate_left
       ·cases e2
       rename_i B;have B:=p! B;cases e2;have J:=qL hi;obtain⟨L',H,S,D,fr,hb,ab,E,X,ag,_⟩:=K.ob i _ J;rw[U]at H;cases H;subst X;obtain⟨xs,ad,ae,ah,O⟩:=K.cells hi U hl;obtain⟨c,Q⟩:=ark hs ad;have aa:s.length=m+1:=by
        have:=congrArg List.length Q;simp at this;omega
       have Z:w.shape? L.blk=some (D,S.size):=by simp[j?,hb]
       have Y:L.off+o+(m+1)<=S.size:=by
        have h1:=O m xs[m] (j! (by omega));have h2:w.cell? ((L.at o).add m)=S[L.off+o+m]?:=by
         by_cases I:m=0
         ·subst I;simp[Loc.at,Addr.add,l?,hb]
         ·simp[Loc.at,Addr.add,I,l?,hb]
        rw[h2]at h1;have:=(P!.1 h1).1;omega
       ·have d:(s.map UInt8.ofNat).length=m+1:=by simp[aa]
        have C:=ad5 (P:=P) (w:=w) (pt:=pt) (it:=it) (ty:=ty) (e:=D) hp W (g:=L.blk) (off:=L.off+o) Z (l:=s.map UInt8.ofNat) (by intro hn;rw[hn]at d;simp at d) (by rw[d];exact Y) (by rw[d];omega) (λj y hj=>by
         rw[G!]at hj;cases z:s[j]? with
         |none=>rw[z]at hj;cases hj
         |some b=>
          rw[z]at hj;simp only[Option.map_some,v?]at hj;subst hj;have h3:xs[j]?=some (.int .u8 (b:Int)):=by rw[Q];simp[z]
          have h4:=O j _ h3;rw[TT (c b (h! z))];exact h4) (k:=k)
        rw[d]at C;have ht:=K.turn J U rfl (w':=w.freeze ⟨L.blk,L.off+o,none⟩ (m+1)) (o':=.cells .ro cs) (by simp[R!]) (λq hq=>by
         simp only[R!];rw[if_neg (by omega),U!,if_neg (Ne.symm hq)]) rfl rfl rfl (by
         refine⟨S,D,(if fr.1==fr.2 then(L.off+o,L.off+o+(m+1)) else(min fr.1 (L.off+o),max fr.2 (L.off+o+(m+1)))),?_,ab,E,trivial⟩;simp only[R!];rw[if_neg (by omega),U!,if_pos rfl,hb];rfl)
        exact⟨_,_,M,C,Ub c,ht.1,ht.2⟩
      ·cases e2
     ·cases e2
    ·cases e2
   ·cases e2
 ·cases e1
def ao9(x:V)(h:Hp):R V:=match x with
 | .cZ=>.ok .cZ h
 | .ptr i o=>dR h i λ_ cs=>(match LK o cs with|some _=>.ok (.ptr i o) h|none=>.bad)
 |_=>.bad
def aNt{s d t:TypeId}(k:P.underlying s=some (.pointer t))(hd:P.underlying d=some .unsafePointer){ti:TypeInfo}(g:P.info? t=some ti)(f:ti.size≠0){x:V}{a:Value}(b:Rel G M h w)(l:Rp M x a)(e:ao9 x h=.ok r h'):Good P G M h w (convert s d a) r h':=by
 unfold ao9 at e;split at e
 ·cases e;cases l.cZ;refine .same b (c:=.pointer none) ?_ ⟨rfl,rfl⟩;simp[convert,run_underlying k,run_underlying hd,E!]
 ·rename_i i o;obtain⟨L,j,rfl⟩:=l.ptr;obtain⟨wr,cs,hi,e⟩:=gG e;rw[oz]at e;split at e
  ·rename_i v m;cases e;obtain⟨y,n,_,_⟩:=b.cell hi j m;exact .same b (run_convert_to_unsafe k hd (by simp[g,f]) n) (yL j o)
  ·cases e
 ·cases e
def Yw(P:Program)(u:TypeId)(x:V)(h:Hp):R V:=match x with
 | .cZ=>.ok .cZ h
 | .ptr i o=>dR h i λwr cs=>(match wr with
  | .rw t full=>(match full,LK o cs,liesAt P P.depth t (cs.length / P.cellsOf t) o u 1 with
   |true,some _,true=>.ok (.ptr i o) h
   |_,_,_=>.bad)
  | .ro=>.bad)
 |_=>.bad
def aGM{s d u:TypeId}(H:P.underlying s=some .unsafePointer)(hd:P.underlying d=some (.pointer u)){O:TypeInfo}(B:P.info? u=some O){x:V}{a:Value}(l:Rel G M h w)(J:Rp M x a)(e:Yw P u x h=.ok r h'):Good P G M h w (convert s d a) r h':=by
 unfold Yw at e;split at e
 ·cases e;cases J.cZ;refine .same l (c:=.pointer none) ?_ ⟨rfl,rfl⟩;simp[convert,run_underlying H,run_underlying hd,E!]
 ·rename_i i o;obtain⟨L,n,rfl⟩:=J.ptr;obtain⟨wr,cs,hi,e⟩:=gG e;split at e
  ·rename_i t full;split at e
   ·rename_i v I C;cases e;rw[oz]at I;obtain⟨y,S,_,_⟩:=l.cell hi n I;obtain⟨Q,g,m,f,fr,hb,E,q,z,K,b⟩:=l.ob i _ (qL hi);rw[n]at g;cases g;subst z;obtain⟨j,hn⟩:=b rfl;have D:w.shape? L.blk=some (f,m.size):=by simp[j?,hb]
    have k:w.shape? (L.at o).block=some (f,m.size):=D;have N:(L.at o).off=o:=by simp[Loc.at,j]
    have p:m.size=cs.length:=by rw[E,hn]
    refine .same l (c:=.pointer (some (L.at o))) ?_ (yL n o);simp[convert,run_underlying H,run_underlying hd,E!,Conv.seenAt,viewAt,sizeOf,typeInfo,variablesAt,k,N,p,C,B]
   ·cases e
  ·cases e
 ·cases e
abbrev Fun:=List V->Hp->R V
def Post(G:Nat)(M:Mp)(h:Hp)(w:World)(r:V)(h':Hp)(c:Value)(w':World):Prop:=∃M',Rp M' r c/\Rel G M' h' w'/\Ext M h w M' h' w'
def Opq(P:Program)(post:Value->World->Prop):Result Next->Prop
 | .ok (.value c) w'=>post c w'
 | .ok .skip w'=>post undef w'
 | .ok (.enter f args) w'=>Calls P f args w' λe a=>∃c,e=.returned c/\post c a
 |_=>False
def Good.opq{s:Sem Value}(g:Good P G M h w s r h'):Opq P (Post G M h w r h') ((do pure (.value (<-s)):Sem Next).run P w):=by
 obtain⟨c,w',M',e,a,b,d⟩:=g;simp[e];exact⟨M',a,b,d⟩
def aH(P:Program)(G:Nat)(f:FuncId)(F:Fun):Prop:=
 ∀(args:List V) (h:Hp) (r:V) (h':Hp) (M:Mp) (w:World) (cargs:List Value),F args h=.ok r h'->Rel G M h w->bY M args cargs->
  Opq P (Post G M h w r h') ((callFunc f cargs.toArray).run P w)
def N8(P:Program)(el:TypeId):Option TypeInfo:=match P.info? el with
 |none=>none
 |some ti=>(match ti.zero with
  |none=>none
  |some z=>(match q! z.cells.size ti.size,z.cells.toList.all scalar,t? 0 ti.size,t? 0 ti.bytes with
   |true,true,true,true=>some ti
   |_,_,_,_=>none))
def Bz{el:TypeId}{ti:TypeInfo}(e:N8 P el=some ti):∃z,ElemOk P el ti z:=by
 unfold N8 at e;split at e
 ·cases e
 ·rename_i i hi;split at e
  ·cases e
  ·rename_i z g;split at e
   ·rename_i a b c d;cases e;exact⟨z,hi,g,e! a,λy f=>List.all_eq_true.1 b y f,by simpa[c?]using c,by simpa[c?]using d⟩
   ·cases e
def ZI(P:Program)(t:TypeId):Option (List V):=match P.info? t with
 |none=>none
 |some it=>(match it.zero with
  |none=>none
  |some z=>Iy z.cells.toList)
def LC{t:TypeId}{zs:List V}(e:ZI P t=some zs):∃it z,P.info? t=some it/\it.zero=some z/\∀M:Mp,bY M zs z.cells.toList/\∀y∈z.cells.toList,scalar y=true:=by
 unfold ZI at e;split at e
 ·cases e
 ·rename_i it hit;split at e
  ·cases e
  ·rename_i z a;exact⟨it,z,hit,a,λM=>BA e M⟩
def ax8(P:Program)(a:List Field):Option (List (Nat×Nat)):=a.mapM λf=>(P.info? f.type).map λi=>(f.offset,i.size)
def apQ(d:TypeDesc):Bool:=match d with| .struct _| .array _ _=>true|_=>false
def ao5(P:Program)(d:TypeDesc):Option Nat:=match d with
 | .pointer e=>(match P.info? e with|some ti=>some ti.size|none=>none)
 |_=>some 0
def dn(e:FuncId->Option Fun)(f:V)(args:List V)(h:Hp):R V:=match f with
 | .func fn a b=>(match fn with
  | .func g=>(match e g with|some F=>F (a.list++(args++b.list)) h|none=>.bad)
  |_=>.bad)
 |_=>.bad
def aad(P:Program)(b:Builtin)(ts:List TypeId)(vs:List V)(h:Hp):R V:=
 match b,ts,vs with
 | .len,[t],[x]=>(match P.underlying t with
  |some (.array n _)=>azv n h
  |some d=>aZ (zq d) x h
  |none=>.bad)
 | .append,[t,t2],[s,x]=>(match P.underlying t,P.underlying t2 with
  |some (.slice el),some (.slice _)=>(match N8 P el with|some ti=>bZ el ti.size ti.bytes s x h|none=>.bad)
  |some (.slice el),some .string=>(match N8 P el with|some ti=>bZ el ti.size ti.bytes s x h|none=>.bad)
  |some (.slice el),some (.int _)=>(match N8 P el with
   |some ti=>(match ti.zero with
    |some z=>(match Iy z.cells.toList with|some zs=>au7 el ti.size ti.bytes zs s x h|none=>.bad)
    |none=>.bad)
   |none=>.bad)
  |_,_=>.bad)
 | .cap,[t],[x]=>(match P.underlying t with
  |some (.slice _)=>apd x h
  |_=>.bad)
 | .copy,[t,_],[x,y]=>(match P.underlying t with
  |some (.slice el)=>(match P.info? el with|some ti=>ami ti.size x y h|none=>.bad)
  |_=>.bad)
 | .unsafeSliceData,_,[x]=>CW x h
 | .unsafeString,[pt,_],[x,y]=>(match P.underlying pt with
  |some (.pointer u)=>(match q! (P.cellsOf u) 1 with|true=>Ij u x y h|false=>.bad)
  |_=>.bad)
 | .min,_,[x,y]=>aCd x y h
 | .max,_,[x,y]=>akv x y h
 | .clear,[t],[x]=>(match P.underlying t with
  |some (.slice el)=>(match N8 P el with
   |some ti=>(match ti.zero with
    |some z=>(match Iy z.cells.toList with|some zs=>XY zs x h|none=>.bad)
    |none=>.bad)
   |none=>.bad)
  |_=>.bad)
 |_,_,_=>.bad
def v0(vs:List V)(k:R V):R V:=match vs with| []=>k|_=>.bad
def v1(vs:List V)(k:V->R V):R V:=match vs with| [x]=>k x|_=>.bad
def v2(vs:List V)(k:V->V->R V):R V:=match vs with| [x,y]=>k x y|_=>.bad
def v3(vs:List V)(k:V->V->V->R V):R V:=match vs with| [x,y,z]=>k x y z|_=>.bad
def aPC{vs:List V}{k:R V}(e:v0 vs k=.ok r h'):vs= []/\k=.ok r h':=by
 unfold v0 at e;split at e<;>first|exact⟨rfl,e⟩|cases e
def CQ{vs:List V}{k:V->R V}(e:v1 vs k=.ok r h'):∃x,vs= [x]/\k x=.ok r h':=by
 unfold v1 at e;split at e<;>first|exact⟨_,rfl,e⟩|cases e
def V7{vs:List V}{k:V->V->R V}(e:v2 vs k=.ok r h'):∃x y,vs= [x,y]/\k x y=.ok r h':=by
 unfold v2 at e;split at e<;>first|exact⟨_,_,rfl,e⟩|cases e
def aBQ{vs:List V}{k:V->V->V->R V}(e:v3 vs k=.ok r h'):∃x y z,vs= [x,y,z]/\k x y z=.ok r h':=by
 unfold v3 at e;split at e<;>first|exact⟨_,_,_,rfl,e⟩|cases e
def avO(P:Program)(t:TypeId)(is:List Nat)(vs:List V)(h:Hp):R V:=match P.underlying t,ZI P t with
 |some (.struct b),some z=>(match ax8 P b.toList with
  |some pl=>(match placed (λi=>pl.toArray[i]?) (is.zip vs) with|some qs=>bK z qs h|none=>.bad)
  |none=>.bad)
 |some (.array _ el),some z=>(match P.info? el with
  |some a=>(match placed (λi=>some (i*a.size,a.size)) (is.zip vs) with|some qs=>bK z qs h|none=>.bad)
  |none=>.bad)
 |_,_=>.bad
def aN8(P:Program)(t:TypeId)(vs:List V)(h:Hp):R V:=match vs with
 | []=>(match P.underlying t with
  |some (.slice el)=>(match P.info? el with|some _=>.ok (.slice h.next 0 0 (.kn 0)) (h.new (.cells (.rw el true) []))|none=>.bad)
  |_=>.bad)
 |_=>.bad
def aif(P:Program)(t:TypeId)(len:Nat)(is:List Nat)(vs:List V)(h:Hp):R V:=match P.underlying t with
 |some (.slice el)=>(match N8 P el with
  |some ti=>(match ti.zero with
   |some z=>(match Iy ((p? (len*ti.size)).map (z.cells[· % z.cells.size]!)).toList,placed (λi=>some (i*ti.size,ti.size)) (is.zip vs),t? 0 len,e? (len*ti.size) 16777216 with
    |some zs,some qs,true,true=>bP el zs len qs h
    |_,_,_,_=>.bad)
   |none=>.bad)
  |none=>.bad)
 |_=>.bad
def Di(P:Program)(t:TypeId)(x:V)(h:Hp):R V:=match P.underlying t with
 |some d=>(match apQ d with
  |true=>(match P.info? t with|some ti=>cO ti.size x h|none=>.bad)
  |false=>aG x h)
 |none=>.bad
def aCQ(P:Program)(op:BinOp)(t:TypeId)(lit:Bool)(x y:V)(h:Hp):R V:=match P.underlying t with
 |some d=>(match structOf d with
  |some a=>Yx P op t a x y h
  |none=>(match ao5 P d with|some sz=>aJ op (ahu d sz lit) x y h|none=>.bad))
 |none=>.bad
def x9(P:Program)(s d:TypeId)(x:V)(h:Hp):R V:=match P.underlying s,P.underlying d with
 |some _,some (.int k)=>jk k x h
 |some .string,some .string=>Ul x h
 |some .string,some (.slice el)=>(match P.underlying el with|some (.int .u8)=>FX x h|_=>.bad)
 |some (.slice el),some .string=>(match P.underlying el with|some (.int .u8)=>Bl x h|_=>.bad)
 |some (.slice _),some (.slice el)=>(match q! s d,P.underlying el with|true,some (.int .u8)=>auT x h|_,_=>.bad)
 |some (.pointer t),some .unsafePointer=>(match P.info? t with|some ti=>(match q! ti.size 0 with|false=>ao9 x h|true=>.bad)|none=>.bad)
 |some .unsafePointer,some (.pointer u)=>(match P.info? u with|some _=>Yw P u x h|none=>.bad)
 |_,_=>.bad
def avM(P:Program)(t:TypeId)(x:V)(h:Hp):R V:=match P.underlying t with
 |some (.interface _)=>.bad
 |some _=>auW t x h
 |none=>.bad
def aCP(fn:Fn)(m n:Nat)(vs:List V)(h:Hp):R V:=match q! vs.length (m+n) with
 |true=>dZ fn (vs.take m) (vs.drop m) h
 |false=>.bad
def amD(P:Program)(t:TypeId)(l c:V)(h:Hp):R V:=match P.underlying t with
 |some (.slice el)=>(match N8 P el,ZI P el with|some ti,some z=>xR el ti.bytes z l c h|_,_=>.bad)
 |_=>.bad
def UA(P:Program)(t:TypeId)(x:V)(lo hi mx:Option V)(h:Hp):R V:=match P.underlying t with
 |some .string=>(match mx with|none=>Bj x lo hi h|some _=>.bad)
 |some (.slice el)=>(match P.info? el with|some ti=>ahh ti.size x lo hi mx h|none=>.bad)
 |some (.array n el)=>(match P.info? el with|some ti=>OC ti.size n x lo hi mx h|none=>.bad)
 |_=>.bad
def avN(P:Program)(t:TypeId)(n:Nat)(x:V)(h:Hp):R V:=match P.underlying t with
 |some (.struct a)=>(match a[n]? with
  |some f=>(match P.info? f.type with
   |some ti=>(match q! ti.size 0 with|false=>aF f.offset x h|true=>.bad)
   |none=>.bad)
  |none=>.bad)
 |_=>.bad
def aaz(P:Program)(t:TypeId)(x i:V)(h:Hp):R V:=match P.underlying t with
 |some (.slice el)=>(match P.info? el with|some ti=>bD ti.size x i h|none=>.bad)
 |some (.array n el)=>(match P.info? el with|some ti=>aCg n ti.size x i h|none=>.bad)
 |_=>.bad
def avL(P:Program)(t:TypeId)(x i:V)(h:Hp):R V:=match P.underlying t with
 |some .string=>mF x i h
 |_=>.bad
def Uk(d:TypeDesc)(ok:Bool)(z m x:V)(h:Hp):R V:=match mG d x with|true=>LH ok z m x h|false=>.bad
def gm(d:TypeDesc)(m x y:V)(h:Hp):R V:=match mG d x with|true=>xQ m x y h|false=>.bad
def Yv(P:Program)(t:TypeId)(ok:Bool)(m x:V)(h:Hp):R V:=match P.underlying t with
 |some (.map c a)=>(match P.underlying c,P.info? a with
  |some d,some b=>(match b.zero with
   |some e=>(match const e with|some z=>Uk d ok z m x h|none=>.bad)
   |none=>.bad)
  |_,_=>.bad)
 |_=>.bad
def Dh(P:Program)(t:TypeId)(m x y:V)(h:Hp):R V:=match P.underlying t with
 |some (.map a _)=>(match P.underlying a with
  |some d=>(match mG d x with|true=>xQ m x y h|false=>.bad)
  |none=>.bad)
 |_=>.bad
def avI(r:Option Operand)(vs:List V)(h:Hp):R V:=match r,vs with
 |none,[]=>Z8 h
 |_,_=>.bad
def atF(P:Program)(e:FuncId->Option Fun)(c:Call)(vs:List V)(h:Hp):R V:=match c.callee with
 | .value _=>(match vs with|f::args=>dn e f args h| []=>.bad)
 | .builtin b=>aad P b c.argTypes.toList vs h
 | .invoke _ _=>.bad
def akr(x:Option Operand)(vs:List V)(k:Option V->List V->R V):R V:=match x with
 |none=>k none vs
 |some _=>(match vs with|v::r=>k (some v) r| []=>.bad)
def azY(P:Program)(t:TypeId)(n:Nat)(x:V)(h:Hp):R V:=match P.underlying t with
 |some (.struct a)=>(match a[n]? with
  |some f=>(match P.underlying f.type,P.info? f.type with
   |some d,some ti=>aCc (apQ d) ti.size f.offset x h
   |_,_=>.bad)
  |none=>.bad)
 |_=>.bad
def aIX{t:TypeId}{d:TypeDesc}{ti:TypeInfo}(hd:P.underlying t=some d)(j:P.info? t=some ti){off:Nat}{x:V}{a:Value}(m:Rel G M h w)(p:Rp M x a)(e:aCc (apQ d) ti.size off x h=.ok r h'):
  Good P G M h w (do part t (<-asAgg a) off) r h':=by
 unfold aCc at e;split at e
 ·rename_i l;obtain⟨xs,hl,o,rfl⟩:=p.agg;split at e
  ·rename_i b;split at e
   ·rename_i v f;cases e;rw[azB]at f;obtain⟨y,k,i⟩:=hl.get f;refine .same m (c:=y) ?_ i;have g:(isAgg t).run P w=.ok false w:=by rw[Wi hd];cases d<;>first|rfl|(cases b)
    simp[asAgg,part,g,k]
   ·cases e
  ·rename_i b;split at e
   ·rename_i vs f;cases e;obtain⟨n,rfl⟩:=TV _ f;rw[jO]at n⊢;have g:(isAgg t).run P w=.ok true w:=by rw[Wi hd];cases d<;>first|rfl|(cases b)
    refine .same m (c:=.agg ((xs.drop off).take ti.size).toArray) ?_ (aey ((hl.drop off).take ti.size) λy k=>o y (List.mem_of_mem_drop (List.mem_of_mem_take k)));simp[asAgg,part,g,sizeOf,typeInfo,j]
   ·cases e
 ·cases e
def aGR{t:TypeId}{b:Array Field}{n:Nat}{f:Field}(hd:P.underlying t=some (.struct b))(k:b[n]?=some f){a:Value}(g:Good P G M h w (do part f.type (<-asAgg a) f.offset) r h'):
  Good P G M h w (o? t a n) r h':=by
 obtain⟨c,w',M',e,d,i,j⟩:=g;refine⟨c,w',M',?_,d,i,j⟩;rw[<-e];simp[o?,run_underlying hd,k]
def iK(P:Program)(e:FuncId->Option Fun)(op:Op)(vs:List V)(h:Hp):R V:=
 match op with
 | .move _=>v1 vs λx=>.ok x h
 | .assign _=>v1 vs λx=>.ok x h
 | .pick _ _ _=>v3 vs λc a b=>atz c a b h
 | .alloc t=>v0 vs (match ZI P t with|some z=>eY t z h|none=>.bad)
 | .box t _=>v1 vs λx=>eU t x h
 | .build t ps=>avO P t (ps.toList.map (·.1)) vs h
 | .buildSlice t len ps=>(match q! len 0 with|true=>aN8 P t vs h|false=>aif P t len (ps.toList.map (·.1)) vs h)
 | .load t _=>v1 vs λx=>Di P t x h
 | .store t _ _=>v2 vs λx y=>(match P.info? t with|some ti=>aV ti.size x y h|none=>.bad)
 | .nilCheck _=>v1 vs λx=>aS x h
 | .binOp op t g j _=>v2 vs λx y=>aCQ P op t (isC g||isC j) x y h
 | .unOp op _ _=>v1 vs λx=>oUn op x h
 | .convert s d _=>v1 vs λx=>x9 P s d x h
 | .makeInterface t _=>v1 vs λx=>avM P t x h
 | .makeFunc fn f c=>aCP fn f.size c.size vs h
 | .makeSlice t _ _=>v2 vs λl c=>amD P t l c h
 | .slice t _ lo hi mx=>(match vs with
  |x::vs=>akr lo vs λlo vs=>akr hi vs λhi vs=>akr mx vs λmx _=>UA P t x lo hi mx h
  | []=>.bad)
 | .fieldAddr t _ n=>v1 vs λx=>avN P t n x h
 | .field t _ n=>v1 vs λx=>azY P t n x h
 | .indexAddr t _ _=>v2 vs λx i=>aaz P t x i h
 | .index t _ _=>v2 vs λx i=>avL P t x i h
 | .extract _ n=>v1 vs λx=>bJ n x h
 | .lookup t _ _ ok=>v2 vs λm x=>Yv P t ok m x h
 | .mapUpdate t _ _ _=>v3 vs λm x y=>Dh P t m x y h
 | .insert t _ _ _=>v3 vs λm x y=>Dh P t m x y h
 | .makeMap _ r=>avI r vs h
 | .call c=>atF P e c vs h
 |_=>.bad
def vz{ρ:Operand->Value}{x:Operand}{v:V}{xs:Array Operand}(b:xs= #[x])(a:bY M [v] (xs.toList.map ρ)):Rp M v (ρ x):=by
 subst b;obtain⟨_,_,h,_,e⟩:=a;simp at e;obtain⟨rfl,_⟩:=e;exact h
def ops2{ρ:Operand->Value}{x y:Operand}{u v:V}{xs:Array Operand}(c:xs= #[x,y])(b:bY M [u,v] (xs.toList.map ρ)):Rp M u (ρ x)/\Rp M v (ρ y):=by
 subst c;obtain⟨_,_,h,⟨_,_,g,_,a⟩,e⟩:=b;subst a;simp at e;obtain⟨rfl,rfl,_⟩:=e;exact⟨h,g⟩
def ops3{ρ:Operand->Value}{x y z:Operand}{u v t:V}{xs:Array Operand}(d:xs= #[x,y,z])(c:bY M [u,v,t] (xs.toList.map ρ)):Rp M u (ρ x)/\Rp M v (ρ y)/\Rp M t (ρ z):=by
 subst d;obtain⟨_,_,h,⟨_,_,g,⟨_,_,k,_,a⟩,b⟩,e⟩:=c;subst a;subst b;simp at e;obtain⟨rfl,rfl,rfl,_⟩:=e;exact⟨h,g,k⟩
def aG8{e:FuncId->Option Fun}(m:∀f F,e f=some F->aH P G f F){f:V}{args:List V}{i:Value}{cargs:List Value}(o:Rel G M h w)(n:Rp M f i)(l:bY M args cargs)
  (e0:dn e f args h=.ok r h'):Opq P (Post G M h w r h') ((do let d<-Deferred.ofValue i cargs.toArray;invoke d.target d.args:Sem Next).run P w):=by
 unfold dn at e0;split at e0
 ·rename_i fn a b;obtain⟨j,x,y,c,p,q,rfl⟩:=n.func;split at e0
  ·rename_i g;obtain rfl:j=.func g:=c;split at e0
   ·rename_i F k;have:=m g F k _ _ _ _ _ _ (x++(cargs++y)) e0 o (bY.append p (bY.append l q));simpa[Deferred.ofValue,invoke,Array.append_assoc]using this
   ·cases e0
  ·cases e0
 ·cases e0
def aB7{d:TypeDesc}{sz:Nat}(h0:ao5 P d=some sz):∀e,d=.pointer e->∃ti,P.info? e=some ti/\ti.size=sz:=by
 intro e a;subst a;simp only[ao5]at h0;split at h0
 ·rename_i ti hi;cases h0;exact⟨ti,hi,rfl⟩
 ·cases h0
def Opq.pure{c:Value}(a:Rel G M h w)(b:Rp M r c):Opq P (Post G M h w r h) ((pure (.value c):Sem Next).run P w):=⟨M,b,a,.refl a⟩
def zip_fst{ρ:Operand->Value}(ps:List (Nat×Operand)){vs:List V}(hl:vs.length=ps.length):
  ((ps.map (·.1)).zip vs).map (·.1)=(ps.map λp=>(p.1,ρ p.2)).map (·.1)/\((ps.map (·.1)).zip vs).map (·.2)=vs:=by
 constructor
 ·rw[List.map_fst_zip (by simp[hl])];simp
 ·rw[List.map_snd_zip (by simp[hl])]
def bY.cons_inv{v:V}{vs:List V}{l:List Value}(d:bY M (v::vs) l):∃c cs,l=c::cs/\Rp M v c/\bY M vs cs:=by
 obtain⟨c,cs,a,b,e⟩:=d;exact⟨c,cs,e,a,b⟩
def ao7{ρ:Operand->Value}{x:Option Operand}{rest:List Value}{vs:List V}{k:Option V->List V->R V}(b:bY M vs ((x.toArray.toList.map ρ)++rest))(e:akr x vs k=.ok r h'):
  ∃u us,k u us=.ok r h'/\pF M u (x.map ρ)/\bY M us rest:=by
 cases x with
 |none=>exact⟨none,vs,e,trivial,by simpa using b⟩
 |some y=>
  cases vs with
  |nil=>cases e
  |cons v vs=>
   obtain⟨c,cs,a,d,f⟩:=b.cons_inv;simp at a;obtain⟨rfl,rfl⟩:=a;exact⟨some v,vs,e,d,f⟩
def azk(w:World)(t el:TypeId)(ti:TypeInfo)(hd:P.underlying t=some (.slice el))(a:P.info? el=some ti):
  (K! t 0 #[]).run P w=.ok (.slice (some ⟨w.heap.size,0,none⟩) 0 0) (w.alloc (.cells #[] el)):=by
 simp[K!,run_underlying hd,sizeOf,typeInfo,a,Instr.fill,newRow,show(p? 0)= #[] from rfl]
def axU{d:TypeDesc}{a:Array Field}(h:structOf d=some a):d=.struct a:=by
 cases d<;>simp[structOf]at h;rw[h]
def aJJ{op:BinOp}{t:TypeId}{k l:Operand}{x y:V}{a b:Value}(g:Rel G M h w)(i:Rp M x a)(j:Rp M y b)(e:aCQ P op t (isC k||isC l) x y h=.ok r h'):
  Good P G M h w (do eqGuard op t k l a b;binOp op t a b) r h':=by
 unfold aCQ at e;split at e
 ·rename_i d hd;split at e
  ·rename_i m c;rw[axU c]at hd;exact aEB hd g i j e
  ·split at e
   ·rename_i sz f;exact aOg hd (aB7 f) g i j e
   ·cases e
 ·cases e
def aCO{t:TypeId}{ok:Bool}{m x:V}{c f:Value}(j:Rel G M h w)(i:Rp M m c)(k:Rp M x f)(e:Yv P t ok m x h=.ok r h'):Good P G M h w (n! t c f ok) r h':=by
 unfold Yv at e;split at e
 ·rename_i p n ht;split at e
  ·rename_i d o hd a;split at e
   ·rename_i q b;split at e
    ·rename_i z l;unfold Uk at e;split at e
     ·rename_i g;exact aD6 ht hd a b l g j i k e
     ·cases e
    ·cases e
   ·cases e
  ·cases e
 ·cases e
def abV{t:TypeId}{m x y:V}{a b c:Value}(i:Rel G M h w)(g:Rp M m a)(j:Rp M x b)(k:Rp M y c)(e:Dh P t m x y h=.ok r h'):
  ∃w',(z! t a b c).run P w=.ok () w'/\r=V.undef/\Rel G M h' w'/\Ext M h w M h' w':=by
 unfold Dh at e;split at e
 ·rename_i n l ht;split at e
  ·rename_i d hd;split at e
   ·rename_i f;exact avg ht hd f i g j k e
   ·cases e
  ·cases e
 ·cases e
set_option maxHeartbeats 1000000 in
def LG{e:FuncId->Option Fun}(he:∀f F,e f=some F->aH P G f F){o:Oper}{a:Act}{vs:List V}(D:bY M vs (o.op.operands.toList.map a.eval))(C:Rel G M h w)
  (e0:iK P e o.op vs h=.ok r h'):Opq P (Post G M h w r h') ((execOp a.eval o).run P w):=by
 obtain⟨dst,op,type,pos,after,guard⟩:=o;simp only at D e0;cases op<;>simp only[iK]at e0<;>try (cases e0;done)
 case move x=>
  obtain⟨x,rfl,e0⟩:=CQ e0;cases e0;exact .pure C (vz rfl D)
 case assign x=>
  obtain⟨x,rfl,e0⟩:=CQ e0;cases e0;exact .pure C (vz rfl D)
 case pick c x y=>
  obtain⟨c,x,y,rfl,e0⟩:=aBQ e0;obtain⟨I,J,h3⟩:=ops3 rfl D;obtain⟨q,rfl,e1⟩:=arF e0;have hb:=I.bool;simp only[execOp,hb,Go.asBool];cases q<;>cases e1
  ·exact .pure C h3
  ·exact .pure C J
 case alloc t=>
  obtain⟨rfl,e0⟩:=aPC e0;split at e0
  ·rename_i z O;obtain⟨it,zv,I,J,h3⟩:=LC O;exact(aHe I J (h3 M).1 (h3 M).2 C e0).opq
  ·cases e0
 case box t x=>
  obtain⟨x,rfl,e0⟩:=CQ e0;exact(aOf C (vz rfl D) e0).opq
 case load t x=>
  obtain⟨x,rfl,e0⟩:=CQ e0;unfold Di at e0;split at e0
  ·rename_i d hd;split at e0
   ·rename_i ha;split at e0
    ·rename_i ti j;exact(aGw hd (by cases d<;>simp_all[apQ]) j C (vz rfl D) e0).opq
    ·cases e0
   ·rename_i ha;exact(aGx hd (by cases d<;>simp_all[apQ]) C (vz rfl D) e0).opq
  ·cases e0
 case store t x y=>
  obtain⟨x,y,rfl,e0⟩:=V7 e0;obtain⟨I,J⟩:=ops2 rfl D;split at e0
  ·rename_i ti j;obtain⟨w',g1,rfl,g2,g3⟩:=aF6 (P:=P) j C I J e0;simp only[execOp,d!,g1,c!];exact⟨M,lH M,g2,g3⟩
  ·cases e0
 case lookup t m x ok=>
  obtain⟨m,x,rfl,e0⟩:=V7 e0;obtain⟨I,J⟩:=ops2 rfl D;exact(aCO C I J e0).opq
 case mapUpdate t m x y=>
  obtain⟨m,x,y,rfl,e0⟩:=aBQ e0;obtain⟨I,J,h3⟩:=ops3 rfl D;obtain⟨w',g1,rfl,g2,g3⟩:=abV (P:=P) C I J h3 e0;simp only[execOp,d!,g1,c!];exact⟨M,lH M,g2,g3⟩
 case insert t m x y=>
  obtain⟨m,x,y,rfl,e0⟩:=aBQ e0;obtain⟨I,J,h3⟩:=ops3 rfl D;obtain⟨w',g1,rfl,g2,g3⟩:=abV (P:=P) C I J h3 e0;simp only[execOp,d!,g1,c!];exact⟨M,lH M,g2,g3⟩
 case makeMap t rs=>
  unfold avI at e0;split at e0
  ·exact(aCn C e0).opq
  ·cases e0
 case nilCheck x=>
  obtain⟨x,rfl,e0⟩:=CQ e0;obtain⟨rfl,rfl,hh⟩:=ax4 (P:=P) (w:=w) (vz rfl D) e0;rw[hh a.eval _ _ rfl rfl];exact⟨M,vz rfl D,C,.refl C⟩
 case binOp op t xo yo _=>
  obtain⟨x,y,rfl,e0⟩:=V7 e0;obtain⟨I,J⟩:=ops2 rfl D;exact(aJJ C I J e0).opq
 case unOp op _ x=>
  obtain⟨x,rfl,e0⟩:=CQ e0;exact(aPD C (vz rfl D) e0).opq
 case convert s d x=>
  obtain⟨x,rfl,e0⟩:=CQ e0;unfold x9 at e0;split at e0
  ·rename_i Z hd;exact(aCS Z hd C (vz rfl D) e0).opq
  ·rename_i Z hd;exact(aCR Z hd C (vz rfl D) e0).opq
  ·rename_i el Z hd;split at e0
   ·rename_i aa;exact(axV Z hd aa C (vz rfl D) e0).opq
   ·cases e0
  ·rename_i el Z hd;split at e0
   ·rename_i aa;exact(ayf Z hd aa C (vz rfl D) e0).opq
   ·cases e0
  ·rename_i el ar Z hd;split at e0
   ·rename_i ao aa;exact(aGt (e! ao) Z hd aa C (vz rfl D) e0).opq
   ·cases e0
  ·rename_i t Z hd;replace e0:(match P.info? t with|some ti=>(match q! ti.size 0 with|false=>ao9 x h|true=>.bad)|none=>.bad)=R.ok r h':=e0;split at e0
   ·rename_i ti j;split at e0
    ·rename_i O;exact(aNt Z hd j (V! O) C (vz rfl D) e0).opq
    ·cases e0
   ·cases e0
  ·rename_i u Z hd;replace e0:(match P.info? u with|some _=>Yw P u x h|none=>.bad)=R.ok r h':=e0;split at e0
   ·rename_i iu ai;exact(aGM Z hd ai C (vz rfl D) e0).opq
   ·cases e0
  ·cases e0
 case makeInterface t x=>
  obtain⟨x,rfl,e0⟩:=CQ e0;unfold avM at e0;split at e0
  ·cases e0
  ·rename_i d aj hd;exact(aGG hd (λms hm=>aj ms (by rw[hm])) C (vz rfl D) e0).opq
  ·cases e0
 case makeFunc fn f c=>
  unfold aCP at e0;split at e0
  ·rename_i hl;have av:=e! hl;have e1:(Op.makeFunc fn f c).operands.toList.map a.eval=f.toList.map a.eval++c.toList.map a.eval:=by simp[w!]
   rw[e1]at D;have g1:=D.take f.size;have g2:=D.drop f.size;rw[List.take_left' (by simp)]at g1;rw[List.drop_left' (by simp)]at g2;have:=(aJo (P:=P) C g1 g2 e0).opq;have e2:∀z:Array Operand,(z.toList.map a.eval).toArray=z.map a.eval:=λz=>by apply g!;simp
   rw[e2,e2]at this;exact this
  ·cases e0
 case makeSlice t l c=>
  obtain⟨x,y,rfl,e0⟩:=V7 e0;obtain⟨I,J⟩:=ops2 rfl D;unfold amD at e0;split at e0
  ·rename_i el hd;split at e0
   ·rename_i ti z j O;obtain⟨zv,E⟩:=Bz j;obtain⟨it,aB,k1,k2,k3⟩:=LC O;rw[E.info]at k1;cases k1;rw[E.zero]at k2;cases k2;exact(avh hd E (k3 M).1 C I J e0).opq
   ·cases e0
  ·cases e0
 case slice t x lo hi mx=>
  split at e0
  ·rename_i v vs;have e1:(Op.slice t x lo hi mx).operands.toList.map a.eval=a.eval x::((lo.toArray.toList.map a.eval)++((hi.toArray.toList.map a.eval)++((mx.toArray.toList.map a.eval)++ []))):=by
    simp[w!]
   rw[e1]at D;obtain⟨c,cs,Q,K,S⟩:=D.cons_inv;cases Q;obtain⟨l1,ax,e1,p1,r1⟩:=ao7 S e0;obtain⟨l2,ay,e2,Y,r2⟩:=ao7 r1 e1;obtain⟨l3,az,e3,p3,r3⟩:=ao7 r2 e2;clear e0 e1 e2;have e0:=e3;clear e3;unfold UA at e0;split at e0
   ·rename_i hd;cases l3 with
    |some _=>cases e0
    |none=>
     cases mx with
     |some _=>exact p3.elim
     |none=>exact(axX hd C K p1 Y e0).opq
   ·rename_i el hd;split at e0
    ·rename_i ti j;exact(aDR hd j C K p1 Y p3 e0).opq
    ·cases e0
   ·rename_i n el hd;split at e0
    ·rename_i ti j;exact(axZ hd j C K p1 Y p3 e0).opq
    ·cases e0
   ·cases e0
  ·cases e0
 case fieldAddr t x n=>
  obtain⟨x,rfl,e0⟩:=CQ e0;unfold avN at e0;split at e0
  ·rename_i fs hd;split at e0
   ·rename_i f hf;split at e0
    ·rename_i ti j;split at e0
     ·rename_i O;exact(avz hd hf j (V! O) C (vz rfl D) e0).opq
     ·cases e0
    ·cases e0
   ·cases e0
  ·cases e0
 case field t x n=>
  obtain⟨x,rfl,e0⟩:=CQ e0;unfold azY at e0;split at e0
  ·rename_i fs hd;split at e0
   ·rename_i f hf;split at e0
    ·rename_i d ti X j;exact(aGR hd hf (aIX X j C (vz rfl D) e0)).opq
    ·cases e0
   ·cases e0
  ·cases e0
 case indexAddr t x i=>
  obtain⟨x,y,rfl,e0⟩:=V7 e0;obtain⟨I,J⟩:=ops2 rfl D;unfold aaz at e0;split at e0
  ·rename_i el hd;split at e0
   ·rename_i ti j;exact(aJj hd j C I J e0).opq
   ·cases e0
  ·rename_i n el hd;split at e0
   ·rename_i ti j;exact(aJl hd j C I J e0).opq
   ·cases e0
  ·cases e0
 case index t x i=>
  obtain⟨x,y,rfl,e0⟩:=V7 e0;obtain⟨I,J⟩:=ops2 rfl D;unfold avL at e0;split at e0
  ·rename_i hd;exact(aEe hd C I J e0).opq
  ·cases e0
 case extract x n=>
  obtain⟨x,rfl,e0⟩:=CQ e0;exact(aCG C (vz rfl D) e0).opq
 case build t ps=>
  have ab:=D.length;have e1:(Op.build t ps).operands.toList.map a.eval=ps.toList.map λp=>a.eval p.2:=by simp[w!]
  rw[e1]at D ab;have hl:vs.length=ps.toList.length:=by simpa using ab.symm
  obtain⟨z1,z2⟩:=zip_fst (ρ:=a.eval) ps.toList hl;have ac:(ps.map λ(i,x)=>(i,a.eval x)).toList=ps.toList.map λp=>(p.1,a.eval p.2):=by simp
  have I:((ps.toList.map (·.1)).zip vs).map (·.1)=(ps.map λ(i,x)=>(i,a.eval x)).toList.map (·.1):=by rw[ac];exact z1
  have J:bY M (((ps.toList.map (·.1)).zip vs).map (·.2)) ((ps.map λ(i,x)=>(i,a.eval x)).toList.map (·.2)):=by
   rw[ac,z2,n?];exact D
  unfold avO at e0;split at e0
  ·rename_i fs z hd O;obtain⟨it,zv,k1,k2,k3⟩:=LC O;split at e0
   ·rename_i pl am;split at e0
    ·rename_i qs hq;exact(avT hd k1 k2 (.inr ⟨fs,pl,rfl,am,rfl⟩) (k3 M).1 (k3 M).2 hq I J C e0).opq
    ·cases e0
   ·cases e0
  ·rename_i n el z hd O;obtain⟨it,zv,k1,k2,k3⟩:=LC O;split at e0
   ·rename_i ie ah;split at e0
    ·rename_i qs hq;exact(avT hd k1 k2 (.inl ⟨n,el,ie,rfl,ah,rfl⟩) (k3 M).1 (k3 M).2 hq I J C e0).opq
    ·cases e0
   ·cases e0
  ·cases e0
 case buildSlice t len ps=>
  have ab:=D.length;have e1:(Op.buildSlice t len ps).operands.toList.map a.eval=ps.toList.map λp=>a.eval p.2:=by simp[w!]
  rw[e1]at D ab;have hl:vs.length=ps.toList.length:=by simpa using ab.symm
  obtain⟨z1,z2⟩:=zip_fst (ρ:=a.eval) ps.toList hl;have ac:(ps.map λ(i,x)=>(i,a.eval x)).toList=ps.toList.map λp=>(p.1,a.eval p.2):=by simp
  have I:((ps.toList.map (·.1)).zip vs).map (·.1)=(ps.map λ(i,x)=>(i,a.eval x)).toList.map (·.1):=by rw[ac];exact z1
  have J:bY M (((ps.toList.map (·.1)).zip vs).map (·.2)) ((ps.map λ(i,x)=>(i,a.eval x)).toList.map (·.2)):=by
   rw[ac,z2,n?];exact D
  split at e0
  ·rename_i O;have O:=e! O;subst O;unfold aN8 at e0;split at e0
   ·have an:ps= #[]:=by
     cases ps with
     |mk l=>cases l with
      |nil=>rfl
      |cons x l=>simp at hl
    subst an;split at e0
    ·rename_i el hd;split at e0
     ·rename_i ti j;cases e0;have:=C.row (w':=w.alloc (.cells #[] el)) [] #[] el (0,0) rfl (by simp) (by simp) true (λ_=>rfl) rfl rfl rfl rfl;have gd:Good P G M h w (K! t 0 #[]) (.slice h.next 0 0 (.kn 0)) (h.new (.cells (.rw el true) [])):=⟨.slice (some ⟨w.heap.size,0,none⟩) 0 0,w.alloc (.cells #[] el),_,azk w t el ti hd j,iZ (o:=0) (n:=0) (k:=.kn 0) (m:=0) (M.fB h.next ⟨w.heap.size,0,(#[]:Array Value).size⟩) ⟨rfl,Nat.le_refl 0⟩,this.1,this.2⟩
      have gq:=gd.opq;rw[show(#[]:Array (Nat×Value))=(#[]:Array (Nat×Operand)).map (λx=>(x.1,a.eval x.2)) from by simp]at gq;exact gq
     ·cases e0
    ·cases e0
   ·cases e0
  unfold aif at e0;split at e0
  ·rename_i el hd;split at e0
   ·rename_i ti j;obtain⟨zv,E⟩:=Bz j;split at e0
    ·rename_i z O;rw[E.zero]at O;cases O;split at e0
     ·rename_i zs qs ad hq ak al;exact(asQ hd E (by simpa[c?]using ak) (p! al) (BA ad M).1 hq I J C e0).opq
     ·cases e0
    ·cases e0
   ·cases e0
  ·cases e0
 case call c=>
  obtain⟨ae,args,B⟩:=c;unfold atF at e0;cases ae with
  |invoke rc m=>cases e0
  |value f=>
   simp only at e0;split at e0
   ·rename_i fv aq;have e1:(Op.call ⟨.value f,args,B⟩).operands.toList.map a.eval=a.eval f::args.toList.map a.eval:=by simp[w!,Call.operands]
    rw[e1]at D;obtain⟨c,cs,Q,K,S⟩:=D.cons_inv;cases Q;have:=aG8 he C K S e0;have e2:(args.toList.map a.eval).toArray=args.map a.eval:=by apply g!;simp
    rw[e2]at this;simpa[execOp,resolve]using this
   ·cases e0
  |builtin b=>
   simp only at e0;have e1:(Op.call ⟨.builtin b,args,B⟩).operands.toList.map a.eval=args.toList.map a.eval:=by simp[w!,Call.operands]
   rw[e1]at D;have af:∀l:List Operand,args.toList=l->args=l.toArray:=λl hl=>by apply g!;simpa using hl
   have U:∀l:List TypeId,B.toList=l->B=l.toArray:=λl hl=>by apply g!;simpa using hl
   unfold aad at e0;split at e0
   ·rename_i t x L;have N:=U _ L;subst N;obtain⟨c,cs,Q,K,S⟩:=D.cons_inv;have H:cs= []:=S;subst H;have e2:args.map a.eval= #[c]:=by apply g!;simpa using Q
    have fin:Good P G M h w (Builtin.len_ #[t] type #[c]) r h'->Opq P (Post G M h w r h') ((execOp a.eval ⟨dst,.call ⟨.builtin .len,args, #[t]⟩,type,pos,after,guard⟩).run P w):=by
     intro g;have:=g.opq;simpa[execOp,resolve,invoke,builtin,e2]using this
    split at e0
    ·rename_i n el hd;exact fin (aD9 hd C e0)
    ·rename_i d aw hd;exact fin (aNW hd C K e0)
    ·cases e0
   ·rename_i t t2 s x L;have N:=U _ L;subst N;obtain⟨c,cs,Q,K,S⟩:=D.cons_inv;obtain⟨c2,W,p1,Y,p3⟩:=S.cons_inv;have H:W= []:=p3;subst H;subst p1;have e2:args.map a.eval= #[c,c2]:=by apply g!;simpa using Q
    have fin:Good P G M h w (x! #[t,t2] type #[c,c2]) r h'->Opq P (Post G M h w r h') ((execOp a.eval ⟨dst,.call ⟨.builtin .append,args, #[t,t2]⟩,type,pos,after,guard⟩).run P w):=by
     intro g;have:=g.opq;simpa[execOp,resolve,invoke,builtin,e2]using this
    split at e0
    ·rename_i el au hd X;split at e0
     ·rename_i ti j;obtain⟨zv,E⟩:=Bz j;exact fin (arG hd X (by simp) E C K Y e0)
     ·cases e0
    ·rename_i el hd X;split at e0
     ·rename_i ti j;obtain⟨zv,E⟩:=Bz j;exact fin (arG hd X (by simp) E C K Y e0)
     ·cases e0
    ·rename_i el kd hd X;split at e0
     ·rename_i ti j;obtain⟨zv,E⟩:=Bz j;split at e0
      ·rename_i z O;split at e0
       ·rename_i zs ad;have:zv=z:=by have:=E.zero;rw[O]at this;exact(D! this).symm
        subst this;exact fin (aC3 hd X E (BA ad M).1 C K Y e0)
       ·cases e0
      ·cases e0
     ·cases e0
    ·cases e0
   ·rename_i t x L;have N:=U _ L;subst N;obtain⟨c,cs,Q,K,S⟩:=D.cons_inv;have H:cs= []:=S;subst H;have e2:args.map a.eval= #[c]:=by apply g!;simpa using Q
    split at e0
    ·rename_i el hd;have:=(aEy (P:=P) (ty:=type) hd C K e0).opq;simpa[execOp,resolve,invoke,builtin,e2]using this
    ·cases e0
   ·rename_i t t2 x y L;have N:=U _ L;subst N;obtain⟨c,cs,Q,K,S⟩:=D.cons_inv;obtain⟨c2,W,p1,Y,p3⟩:=S.cons_inv;have H:W= []:=p3;subst H;subst p1;have e2:args.map a.eval= #[c,c2]:=by apply g!;simpa using Q
    split at e0
    ·rename_i el hd;split at e0
     ·rename_i ti j;have:=(aJK (P:=P) (t2:=t2) (ty:=type) hd j C K Y e0).opq;simpa[execOp,resolve,invoke,builtin,e2]using this
     ·cases e0
    ·cases e0
   ·rename_i x;obtain⟨c,cs,Q,K,S⟩:=D.cons_inv;have H:cs= []:=S;subst H;have e2:args.map a.eval= #[c]:=by apply g!;simpa using Q
    have:=(auc (P:=P) (ts:=B) (ty:=type) C K e0).opq;simpa[execOp,resolve,invoke,builtin,e2]using this
   ·rename_i pt it x y L;have N:=U _ L;subst N;obtain⟨c,cs,Q,K,S⟩:=D.cons_inv;obtain⟨c2,W,p1,Y,p3⟩:=S.cons_inv;have H:W= []:=p3;subst H;subst p1;have e2:args.map a.eval= #[c,c2]:=by apply g!;simpa using Q
    split at e0
    ·rename_i u hd;split at e0
     ·rename_i ag;have:=(atP (P:=P) (it:=it) (ty:=type) hd (e! ag) C K Y e0).opq;simpa[execOp,resolve,invoke,builtin,e2]using this
     ·cases e0
    ·cases e0
   ·rename_i x y;obtain⟨c,cs,Q,K,S⟩:=D.cons_inv;obtain⟨c2,W,p1,Y,p3⟩:=S.cons_inv;have H:W= []:=p3;subst H;subst p1;have e2:args.map a.eval= #[c,c2]:=by apply g!;simpa using Q
    have:=(aNS (P:=P) (at_:=B) (ty:=type) C K Y e0).opq;simpa[execOp,resolve,invoke,builtin,e2]using this
   ·rename_i x y;obtain⟨c,cs,Q,K,S⟩:=D.cons_inv;obtain⟨c2,W,p1,Y,p3⟩:=S.cons_inv;have H:W= []:=p3;subst H;subst p1;have e2:args.map a.eval= #[c,c2]:=by apply g!;simpa using Q
    have:=(aNT (P:=P) (at_:=B) (ty:=type) C K Y e0).opq;simpa[execOp,resolve,invoke,builtin,e2]using this
   ·rename_i t x L;have N:=U _ L;subst N;obtain⟨c,cs,Q,K,S⟩:=D.cons_inv;have H:cs= []:=S;subst H;have e2:args.map a.eval= #[c]:=by apply g!;simpa using Q
    split at e0
    ·rename_i el hd;split at e0
     ·rename_i ti j;split at e0
      ·rename_i z O;split at e0
       ·rename_i zs ad;obtain⟨zv,E⟩:=Bz j;have ap:zv=z:=by have:=E.zero;rw[O]at this;exact(D! this).symm
        subst ap;have:=(aG7 (P:=P) (ty:=type) hd E (BA ad M).1 C K e0).opq;simpa[execOp,resolve,invoke,builtin,e2]using this
       ·cases e0
      ·cases e0
     ·cases e0
    ·cases e0
   ·cases e0
end
end Go.Vm
