/- Lemmas that the claim's last text uses. No conditions. -/
import Derived.Test.YtpgppmioigacoaaGreatDoorDrAB
import Derived.Lib.UnsafeStr
import Derived.Laws.LoneSync
set_option linter.all false
open Go.Instr renaming sameNow→a!,keyThatStays→k!,lookup→n!,findNow→t!,findKey→u!,mapUpdate→z!,sameBits→B!,buildSlice→K!,checkKey→h?,makeMap→i?,field→o?
open Go.Builtin renaming zeroCells→b!,append_→x!,unsafeString_→y!,clear_→A!,copy_→O!,cap_→Q!
open Go.Result renaming andThen_ok→c!
open Go.Sem renaming run_bind→d!,run_pure→q?,run→r?
open Nat renaming eq_of_beq_eq_true→e!,le_of_ble_eq_true→p!,beq→q!,mul_eq_zero→N!,le_mul_of_pos_right→T!,ne_of_beq_eq_false→V!,blt_eq→c?,ble→e?,blt→t?,beq_eq→w?
open Array renaming ext'→g!,getElem?_eq_some_iff→P!,getElem?_modify→U!,toList_modify→Z!,toList_push→b?,range→p?
open List renaming mem_of_getElem?→h!,getElem?_eq_some_iff→i!,getElem?_eq_getElem→j!,Perm→l!,replicate→o!,getElem_of_mem→C!,mem_map→F!,getElem?_map→G!,ext_getElem?→H!,map_append→L!,pairwise_append→W!,getElem?_modify→X!,getElem?_set→d?,getElem_map→g?,map_map→n?
open Go.Op renaming equalIn→r!,operands→w!
open ForInStep renaming yield→v!,done→a?
open Option.some renaming inj→D!,injEq→v?
open Go.Conv renaming unsafePointer→E!
open List.Perm renaming swap→I!,refl→J!
open Bool renaming eq_iff_iff→M!
open Go.World renaming freeze→R!,shape?→j?,cell?→l?
noncomputable section
namespace Go.Vm
section
variable{P:Program}{G:Nat}{M:Mp}{h h':Hp}{w:World}{r:V}
def mZ(d:TypeDesc)(x:V):Bool:=match d,x with
 | .int _,.int _ _=>true
 | .string,.str _=>true
 | .bool,.bool _=>true
 |_,_=>false
def wu(x:V):List (V×V)->Option (Option V)
 | []=>some none
 |(k,v)::l=>(match iI x k with|some b=>(match b with|true=>some (some v)|false=>wu x l)|none=>none)
def ahr(x y:V):List (V×V)->Option (List (V×V))
 | []=>some [(x,y)]
 |(k,v)::l=>(match iI x k with
  |some b=>(match b with|true=>some ((x,y)::l)|false=>(match ahr x y l with|some r=>some ((k,v)::r)|none=>none))
  |none=>none)
def aeJ(ok:Bool)(v:V)(b:Bool)(h:Hp):R V:=match ok with|true=>.ok (.tuple (.cons v (.cons (.bool b) .nil))) h|false=>.ok v h
def ajn(ok:Bool)(z x:V)(es:List (V×V))(h:Hp):R V:=match wu x es with
 |some o=>(match o with|some v=>aeJ ok v true h|none=>aeJ ok z false h)
 |none=>.bad
def VS(ok:Bool)(z m x:V)(h:Hp):R V:=match m with
 | .jG=>aeJ ok z false h
 | .map i=>(match h.get i with|some (.map es)=>ajn ok z x es h|_=>.bad)
 |_=>.bad
def vY(m x y:V)(h:Hp):R V:=match m with
 | .map i=>(match h.get i with
  |some (.map es)=>(match ahr x y es with|some a=>.ok V.undef (h.put i (some (.map a)))|none=>.bad)
  |_=>.bad)
 |_=>.bad
def X9(h:Hp):R V:=.ok (.map h.next) (h.new (.map []))
theorem aam{d:TypeDesc}{a:TypeId}(f:P.underlying a=some d){x:V}(b:mZ d x=true)(c:Value)(e:Bool):(h? e 10000 a c).run P w=.ok () w:=by
 rw[show(10000:Nat)=9999+1 from rfl];unfold h?;rw[d!,run_underlying f];cases d<;>cases x<;>first|(cases b;done)|rfl
theorem YC{d:TypeDesc}{x y:V}{c e:Value}{b:Bool}(f:mZ d x=true)(i:Rp M x c)(j:Rp M y e)(hb:iI x y=some b):a! d c e=some b:=by
 cases x with
 |int k a=>
  cases y<;>try (cases hb;done)
  rename_i o a';simp only[iI]at hb;split at hb
  ·rename_i n;cases hb;have g:=Jf n;subst g;cases i.int;cases j.int;cases d<;>first|(cases f;done)|(simp[a!,zu])
  ·cases hb
 |str s=>
  cases y<;>try (cases hb;done)
  rename_i t;cases hb;obtain⟨l,rfl⟩:=i.str;obtain⟨m,rfl⟩:=j.str;cases d<;>first|(cases f;done)|skip
  simp only[a!];rw[XT l m];congr 1;show((bts s).data==(bts t).data)=_;simp only[bts];rw[M!];simp
 |bool a=>
  cases y<;>try (cases hb;done)
  rename_i a';cases i.bool;cases j.bool;cases d<;>first|(cases f;done)|skip
  simp only[a!];rw[<-hb];cases a<;>cases a'<;>rfl
 |_=>cases hb
theorem axY{d:TypeDesc}{x y:V}{c e:Value}(o:mZ d x=true)(i:Rp M x c)(j:Rp M y e)(hb:iI x y=some true):e=c/\(k! e c).run P w=.ok c w:=by
 have key:e=c/\B! 10000 c c=true:=by
  rw[show(10000:Nat)=9999+1 from rfl];cases x with
  |int k a=>
   cases y<;>try (cases hb;done)
   rename_i p a';simp only[iI]at hb;split at hb
   ·rename_i n;have g:=Jf n;subst g;have b:mG a a'=true:=by simpa using hb
    rw[zu]at b;have f:a=a':=by simpa using b
    subst f;cases i.int;cases j.int;exact⟨rfl,by simp[B!]⟩
   ·cases hb
  |str s=>
   cases y<;>try (cases hb;done)
   rename_i t;obtain⟨l,rfl⟩:=i.str;obtain⟨m,rfl⟩:=j.str;have b:jW s t=true:=by simpa[iI]using hb
   rw[XT l m]at b;have e1:s.map UInt8.ofNat=t.map UInt8.ofNat:=by simpa using b
   have e2:bts t=bts s:=by unfold bts;rw[e1]
   refine⟨by rw[e2],?_⟩;simp only[B!];show((bts s).data==(bts s).data)=true;simp
  |bool a=>
   cases y<;>try (cases hb;done)
   rename_i a';cases i.bool;cases j.bool;cases a<;>cases a'<;>first|(cases hb;done)|exact⟨rfl,by simp[B!]⟩
  |_=>cases hb
 obtain⟨rfl,k⟩:=key;refine⟨rfl,?_⟩;unfold k!;rw[if_pos k];rfl
theorem aiT:∀{s t:List Nat},jW s t=true->s=t
 | [],[],_=>rfl
 | [],_::_,h=>by cases h
 |_::_,[],h=>by cases h
 |a::x,b::y,h=>by
  simp only[jW]at h;split at h
  ·rename_i c;rw[e! c,aiT h]
  ·cases h
theorem anJ(a b:Nat):q! a b=q! b a:=by
 rw[M!,w?,w?];exact eq_comm
theorem aiU:∀(s t:List Nat),jW s t=jW t s
 | [],[]=>rfl
 | [],_::_=>rfl
 |_::_,[]=>rfl
 |a::x,b::y=>by simp only[jW];rw[anJ a b,aiU x y]
theorem ax1(a b:Int):mG a b=mG b a:=by
 rw[zu,zu,M!];simp only[beq_iff_eq];exact eq_comm
theorem ajr{x y:V}(h:iI x y=some true):x=y:=by
 cases x with
 |int k a=>
  cases y<;>try (cases h;done)
  rename_i d b;simp only[iI]at h;split at h
  ·rename_i c;have h':mG a b=true:=by simpa using h
   rw[zu]at h';rw[Jf c,show a=b by simpa using h']
  ·cases h
 |str s=>
  cases y<;>try (cases h;done)
  rename_i t;rw[aiT (s:=s) (t:=t) (by simpa[iI]using h)]
 |bool a=>
  cases y<;>try (cases h;done)
  rename_i b;cases a<;>cases b<;>first|rfl|(cases h;done)
 |_=>cases h
theorem OJ{x y:V}{b:Bool}(h:iI x y=some b):iI y x=some b:=by
 cases x with
 |int k a=>
  cases y<;>try (cases h;done)
  rename_i d a';simp only[iI]at h⊢;rw[anJ];split at h
  ·rename_i c;(try rw[c]);rw[ax1];exact h
  ·cases h
 |str s=>
  cases y<;>try (cases h;done)
  rename_i t;simp only[iI]at h⊢;rw[aiU];exact h
 |bool a=>
  cases y<;>try (cases h;done)
  rename_i a';simp only[iI]at h⊢;rw[<-h];cases a<;>cases a'<;>rfl
 |_=>cases h
theorem jk.get:∀{ps:List (V×V)} {l:List MapEntry} (_:jk M ps l) {n:Nat} {e:MapEntry},l[n]?=some e->∃k v,ps[n]?=some (k,v)/\Rp M k e.key/\Rp M v e.val
 | [],_,h,n,e,a=>by rw[show _= [] from h]at a;simp at a
 |(k,v)::ps,_,⟨b,es,h,g,x⟩,0,e,a=>by subst x;simp at a;subst a;exact⟨k,v,rfl,h.1,h.2⟩
 |p::ps,_,⟨b,es,h,g,x⟩,n+1,e,a=>by subst x;simp at a⊢;exact jk.get g a
theorem jk.at:∀{ps:List (V×V)} {l:List MapEntry} (_:jk M ps l) {n:Nat} {k v:V},ps[n]?=some (k,v)->∃e,l[n]?=some e/\Rp M k e.key/\Rp M v e.val
 | [],_,h,n,k,v,a=>by simp at a
 |p::ps,_,⟨b,es,h,g,x⟩,0,k,v,a=>by subst x;simp at a;subst a;exact⟨b,rfl,h.1,h.2⟩
 |p::ps,_,⟨b,es,h,g,x⟩,n+1,k,v,a=>by subst x;simp at a⊢;exact jk.at g a
theorem jk.snoc{x y:V}{e:MapEntry}(a:Rp M x e.key)(b:Rp M y e.val):∀{ps:List (V×V)} {l:List MapEntry},jk M ps l->jk M (ps++ [(x,y)]) (l++ [e])
 | [],_,h=>by rw[show _= [] from h];exact⟨e,[],⟨a,b⟩,rfl,rfl⟩
 |p::ps,_,⟨c,es,h,g,z⟩=>by subst z;exact⟨c,_,h,jk.snoc a b g,rfl⟩
theorem jk.set{x y:V}{e:MapEntry}(b:Rp M x e.key)(c:Rp M y e.val):∀{ps:List (V×V)} {l:List MapEntry} (n:Nat),jk M ps l->jk M (ps.set n (x,y)) (l.set n e)
 | [],_,n,h=>by rw[show _= [] from h];rfl
 |p::ps,_,0,⟨a,es,h,g,z⟩=>by subst z;exact⟨e,es,⟨b,c⟩,g,rfl⟩
 |p::ps,_,n+1,⟨a,es,h,g,z⟩=>by subst z;exact⟨a,_,h,jk.set b c n g,rfl⟩
theorem jk.perm{ps qs:List (V×V)}(n:l! ps qs):∀{l:List MapEntry},jk M ps l->∃k,l! k l/\jk M qs k:=by
 induction n with
 |nil=>intro l h;exact⟨l,J! _,h⟩
 |cons p _ o=>
  rintro l ⟨e,es,h,g,rfl⟩;obtain⟨k,a,b⟩:=o g;exact⟨e::k,a.cons e,e,k,h,b,rfl⟩
 |swap p q ps=>
  rintro l ⟨e,es,h,⟨f,i,h',g,rfl⟩,rfl⟩;exact⟨f::e::i,I! _ _ _,f,_,h',⟨e,_,h,g,rfl⟩,rfl⟩
 |trans _ _ c d=>
  intro l h;obtain⟨k,a,b⟩:=c h;obtain⟨s,j,m⟩:=d b;exact⟨s,j.trans a,m⟩
theorem gU.perm{es c:List (V×V)}(d:l! es c)(h:gU es):gU c:=
 (l!.pairwise_iff (λ{a b}=>OJ (x:=a) (y:=b) (b:=false)) (d.map _)).1 h
theorem gU.sub{es a:List (V×V)}(b:List.Sublist es a)(h:gU a):gU es:=List.Pairwise.sublist (b.map _) h
theorem gU.snoc{es:List (V×V)}{x y:V}(h:gU es)(g:∀(n:Nat) k v,es[n]?=some (k,v)->iI x k=some false):gU (es++ [(x,y)]):=by
 unfold gU;rw[L!,W!];refine⟨h,by simp,λa d b hb=>?_⟩;simp at hb;subst hb;obtain⟨⟨k,v⟩,f,rfl⟩:=F!.1 d;obtain⟨n,c,e⟩:=C! f;exact OJ (g n k v (by rw[j! c,e]))
theorem gU.last{es:List (V×V)}{x y:V}(h:gU (es++ [(x,y)])):∀(n:Nat) k v,es[n]?=some (k,v)->iI x k=some false:=by
 intro n k v a;unfold gU at h;rw[L!,W!]at h;exact OJ (h.2.2 k (F!.2 ⟨(k,v),h! a,rfl⟩) x (by simp))
theorem gU.others{es:List (V×V)}(h:gU es){n:Nat}{x v:V}(f:es[n]?=some (x,v)):∀(m:Nat) k u,m≠n->es[m]?=some (k,u)->iI x k=some false:=by
 intro m k u g e;unfold gU at h;rw[List.pairwise_iff_getElem]at h;obtain⟨c,en⟩:=i!.1 f;obtain⟨b,em⟩:=i!.1 e;rcases Nat.lt_or_ge m n with a|d
 ·have:=h m n (by simpa using b) (by simpa using c) a;simp only[g?,en,em]at this;exact OJ this
 ·have:=h n m (by simpa using c) (by simpa using b) (by omega);simpa only[g?,en,em]using this
theorem YK{x v:V}:∀{es:List (V×V)},wu x es=some (some v)->∃n:Nat,es[n]?=some (x,v)/\iI x x=some true/\∀(m:Nat) k u,m<n->es[m]?=some (k,u)->iI x k=some false
 | [],h=>by cases h
 |(k,u)::es,h=>by
  simp only[wu]at h;split at h
  ·rename_i b hb;split at h
   ·cases h;have:=ajr hb;subst this;exact⟨0,rfl,hb,λm k u f=>by omega⟩
   ·obtain⟨n,c,d,e⟩:=YK h;refine⟨n+1,c,d,λm g i f a=>?_⟩;cases m with
    |zero=>simp at a;obtain⟨rfl,rfl⟩:=a;exact hb
    |succ m=>exact e m g i (by omega) a
  ·cases h
theorem YL{x:V}:∀{es:List (V×V)},wu x es=some none->∀(m:Nat) k u,es[m]?=some (k,u)->iI x k=some false
 | [],_,m,k,u,a=>by simp at a
 |(c,d)::es,h,m,k,u,a=>by
  simp only[wu]at h;split at h
  ·rename_i b hb;split at h
   ·cases h
   ·cases m with
    |zero=>simp at a;obtain⟨rfl,rfl⟩:=a;exact hb
    |succ m=>exact YL h m k u a
  ·cases h
theorem ap1{x y:V}:∀{es:List (V×V)},(∀(m:Nat) k u,es[m]?=some (k,u)->iI x k=some false)->ahr x y es=some (es++ [(x,y)])
 | [],_=>rfl
 |(k,u)::es,h=>by
  simp only[ahr,h 0 k u rfl,ap1 (es:=es) λm k u a=>h (m+1) k u a];rfl
theorem auR{x y:V}:∀{es a:List (V×V)},ahr x y es=some a->(wu x es=some none/\a=es++ [(x,y)])\/(∃(n:Nat) (v:V),wu x es=some (some v)/\es[n]?=some (x,v)/\a=es.set n (x,y))
 | [],a,h=>by cases h;exact .inl ⟨rfl,rfl⟩
 |(k,u)::es,a,h=>by
  simp only[ahr]at h;split at h
  ·rename_i b hb;split at h
   ·cases h;have:=ajr hb;subst this;exact .inr ⟨0,u,by simp only[wu,hb],rfl,rfl⟩
   ·split at h
    ·rename_i r f;cases h;rcases auR f with⟨c,d⟩|⟨n,v,c,d,e⟩
     ·exact .inl ⟨by simp only[wu,hb];exact c,by rw[d];rfl⟩
     ·exact .inr ⟨n+1,v,by simp only[wu,hb];exact c,d,by rw[e];rfl⟩
    ·cases h
  ·cases h
theorem YJ{d:TypeDesc}{c:Value}:∀{en:List MapEntry} (i:Nat),(∀e∈en,∃b,a! d c e.key=some b)->∃q,t! d c en i=some q/\(match q with
  |none=>∀e∈en,a! d c e.key=some false
  |some (j,u)=>∃n e,j=i+n/\en[n]?=some e/\u=e.val/\a! d c e.key=some true)
 | [],i,_=>⟨none,rfl,λe s=>by cases s⟩
 |e::en,i,h=>by
  obtain⟨b,hb⟩:=h e (by simp);cases b with
  |true=>exact⟨some (i,e.val),by unfold t!;rw[hb],0,e,rfl,rfl,rfl,hb⟩
  |false=>
   obtain⟨q,k,g⟩:=YJ (d:=d) (c:=c) (en:=en) (i+1) λf a=>h f (List.mem_cons_of_mem _ a);refine⟨q,by unfold t!;rw[hb];exact k,?_⟩;cases q with
   |none=>
    intro f a;rcases List.mem_cons.1 a with rfl|a
    ·exact hb
    ·exact g f a
   |some p=>
    obtain⟨j,u⟩:=p;obtain⟨n,e1,rfl,l,m,o⟩:=g;exact⟨n+1,e1,by omega,l,m,o⟩
theorem find_ok{d:TypeDesc}{x:V}{c:Value}{es:List (V×V)}{l en:List MapEntry}{o:Option V}(I:mZ d x=true)(J:Rp M x c)(Q:l! l en)(y:jk M es l)(Y:gU es)(e:wu x es=some o):
  ∃q,t! d c en 0=some q/\(match o,q with
   |none,none=>True
   |some v,some (j,u)=>Rp M v u/\∃(n:Nat) (f:MapEntry),es[n]?=some (x,v)/\l[n]?=some f/\en[j]?=some f/\f.key=c/\∀(P:Program) (w:World),(k! c c).run P w=.ok c w
   |_,_=>False):=by
 cases o with
 |none=>
  have a:∀f∈en,a! d c f.key=some false:=λf g=>by
   obtain⟨n,hn,O⟩:=C! (Q.mem_iff.2 g);obtain⟨k,v,i,B,H⟩:=y.get (n:=n) (e:=f) (by rw[j! hn,O]);exact YC I J B (YL e n k v i)
  obtain⟨q,i,B⟩:=YJ (d:=d) (c:=c) (en:=en) 0 λf g=>⟨_,a f g⟩
  refine⟨q,i,?_⟩;cases q with
  |none=>trivial
  |some p=>
   obtain⟨j,u⟩:=p;obtain⟨n,e1,_,H,_,U⟩:=B;rw[a e1 (h! H)]at U;cases U
 |some v=>
  obtain⟨n,i,B,_⟩:=YK e;have D:=Y.others i;have a:∀(m:Nat) (f:MapEntry),l[m]?=some f->(m=n->a! d c f.key=some true)/\(m≠n->a! d c f.key=some false):=λm f C=>by
   obtain⟨k,v',z,E,L⟩:=y.get C;refine⟨λb=>?_,λb=>YC I J E (D m k v' b z)⟩;subst b;rw[i]at z;cases z;exact YC I J E B
  have s:∀f∈en,∃m:Nat,l[m]?=some f:=λf g=>by
   obtain⟨m,C,N⟩:=C! (Q.mem_iff.2 g);exact⟨m,by rw[j! C,N]⟩
  obtain⟨q,H,S⟩:=YJ (d:=d) (c:=c) (en:=en) 0 λf g=>by
   obtain⟨m,C⟩:=s f g;by_cases b:m=n
   ·exact⟨_,(a m f C).1 b⟩
   ·exact⟨_,(a m f C).2 b⟩
  obtain⟨e2,K,k2,k3⟩:=y.at i;refine⟨q,H,?_⟩;cases q with
  |none=>
   have:=S e2 (Q.mem_iff.1 (h! K));rw[(a n e2 K).1 rfl]at this;cases this
  |some p=>
   obtain⟨j,u⟩:=p;obtain⟨m,e1,Z,z,E,L⟩:=S;obtain⟨m',t⟩:=s e1 (h! z);have b:m'=n:=by
    by_cases b:m'=n
    ·exact b
    ·rw[(a m' e1 t).2 b]at L;cases L
   subst b;rw[K]at t;cases t;have W:e2.key=c/\∀(P:Program) (w:World),(k! c c).run P w=.ok c w:=by
    have X:∀(P:Program) (w:World),e2.key=c/\(k! e2.key c).run P w=.ok c w:=λP w=>axY I J k2 B;have h0:=(X default default).1;exact⟨h0,λP w=>by have:=(X P w).2;rw[h0]at this;exact this⟩
   refine⟨by rw[E];exact k3,m',e2,i,K,?_,W.1,W.2⟩;rw[Z,Nat.zero_add];exact z
theorem set_perm{α:Type}{l m:List α}{n j:Nat}{a b:α}(o:l! l m)(hl:l[n]?=some a)(g:m[j]?=some a):l! (l.set n b) (m.set j b):=by
 have key:∀{k:List α} {i:Nat},k[i]?=some a->l! k (a::k.eraseIdx i)/\l! (k.set i b) (b::k.eraseIdx i):=by
  intro k;induction k with
  |nil=>intro i hi;simp at hi
  |cons x k p=>
   intro i hi;cases i with
   |zero=>simp at hi;subst hi;exact⟨J! _,J! _⟩
   |succ i=>
    simp at hi;obtain⟨c,d⟩:=p hi;exact⟨(c.cons x).trans (I! _ _ _),(d.cons x).trans (I! _ _ _)⟩
 obtain⟨c,d⟩:=key hl;obtain⟨e,f⟩:=key g;have:l! (l.eraseIdx n) (m.eraseIdx j):=((c.symm.trans o).trans e).cons_inv;exact d.trans ((this.cons b).trans f.symm)
theorem ai1{b:Nat}{en:Array MapEntry}{a:Nat}(o:Obj)(hb:w.heap[b]?=some (.map en a)):(setObj b o).run P w=.ok () {w with heap:=w.heap.setIfInBounds b o}:=by
 simp[setObj,r?,hb]
theorem aDM{i:Pos}{es:List (V×V)}{L:Loc}(e:Rel G M h w)(hi:h.get i=some (.map es))(c:M i=some L):∃en b,w.heap[L.blk]?=some (.map en b)/\xq M es en b:=by
 obtain⟨f,a,en,b,hb,d⟩:=e.ob i _ hi;rw[c]at a;cases a;exact⟨en,b,hb,d⟩
theorem azn{t Z C:TypeId}{d:TypeDesc}{Y:TypeInfo}{s:Value}{z m x:V}{y k:Value}{ok:Bool}(K:P.underlying t=some (.map Z C))(B:P.underlying Z=some d)(E:P.info? C=some Y)(N:Y.zero=some s)(X:const s=some z)
  (O:mZ d x=true) (I:Rel G M h w) (S:Rp M m y) (hx:Rp M x k) (e:VS ok z m x h=.ok r h'):Good P G M h w (n! t y k ok) r h':=by
 have fin:∀(v:V) (c:Value) (b:Bool),Rp M v c->aeJ ok v b h=.ok r h'->(n! t y k ok).run P w=.ok (if ok then .tuple #[c,.bool b] else c) w->Good P G M h w (n! t y k ok) r h':=by
  intro v c b W e a;cases ok with
  |true=>
   cases e;exact .same I a (apW (vs:= [v,.bool b]) (xs:= [c,.bool b]) ⟨_,_,W,⟨_,_,xP M b,rfl,rfl⟩,rfl⟩)
  |false=>cases e;exact .same I a W
 have n:(zeroValue C).run P w=.ok s w:=by simp[zeroValue,typeInfo,E,N]
 have f:=λb=>aam (w:=w) B O k b;unfold VS at e;split at e
 ·cases S.jG;refine fin z s false (QM X M) e ?_;unfold n!;simp[run_underlying K,f,u!,run_underlying B,t!,n]
 ·rename_i i;obtain⟨L,hL,rfl⟩:=S.map;split at e
  ·rename_i es D;obtain⟨en,ck,hb,⟨l,hp,J⟩,H,_⟩:=aDM I D hL;have Q:(getObj L.blk).run P w=.ok (.map en ck) w:=by simp[getObj,r?,hb]
   unfold ajn at e;split at e
   ·rename_i o ho;obtain⟨q,U,g⟩:=find_ok O hx hp J H ho;split at e
    ·rename_i v;cases q with
     |none=>exact g.elim
     |some p=>
      obtain⟨j,u⟩:=p;refine fin v u true g.1 e ?_;unfold n!;simp[run_underlying K,Q,f,u!,run_underlying B,U]
    ·cases q with
     |some p=>exact g.elim
     |none=>
      refine fin z s false (QM X M) e ?_;unfold n!;simp[run_underlying K,Q,f,u!,run_underlying B,U,n]
   ·cases e
  ·cases e
 ·cases e
theorem axP{t:TypeId}(a:Rel G M h w)(e:X9 h=.ok r h'):Good P G M h w (i? t none) r h':=by
 cases e;have:=a.new (.map []) (.map #[] 0) 0 (w':=w.alloc (.map #[] 0)) rfl rfl rfl rfl (λN _=>⟨#[],0,(by show(w.heap.push _)[w.heap.size]?=_;simp),xq.nil N⟩);exact⟨.map (some w.heap.size),_,_,by simp[i?],⟨rfl,_,M.eF _ _,rfl⟩,this.1,this.2.1⟩
theorem aqN{t kt et:TypeId}{d:TypeDesc}{m x y:V}{cm g E:Value}(ht:P.underlying t=some (.map kt et))(hd:P.underlying kt=some d)
  (hf:mZ d x=true) (hr:Rel G M h w) (hm:Rp M m cm) (hx:Rp M x g) (hy:Rp M y E) (e:vY m x y h=.ok r h'):
  ∃w',(z! t cm g E).run P w=.ok () w'/\r=V.undef/\Rel G M h' w'/\Ext M h w M h' w':=by
 unfold vY at e;split at e
 ·rename_i i;obtain⟨L,hL,rfl⟩:=hm.map;split at e
  ·rename_i es X;obtain⟨en,Q,hb,⟨l,hp,I⟩,B,c,aa⟩:=aDM hr X hL;have ah:L.blk<w.heap.size:=(P!.1 hb).1;have hg:(getObj L.blk).run P w=.ok (.map en Q) w:=by simp[getObj,r?,hb]
   split at e
   ·rename_i N Y;cases e;have turn:∀(o:Array MapEntry) (s:Nat),xq M N o s->Rel G M (h.put i (some (.map N))) {w with heap:=w.heap.setIfInBounds L.blk (.map o s)}/\Ext M h w M (h.put i (some (.map N))) {w with heap:=w.heap.setIfInBounds L.blk (.map o s)}:=by
     intro o s D;exact hr.turn X hL rfl (by simp) (λk hk=>by simp[Array.getElem?_setIfInBounds_ne (Ne.symm hk)]) rfl rfl rfl ⟨o,s,by simp[ah],D⟩
    have W:=aam (w:=w) hd hf g false;rcases auR Y with⟨z,rfl⟩|⟨n,v,z,hn,rfl⟩
    ·obtain⟨q,hq,H⟩:=find_ok hf hx hp I B z;cases q with
     |some p=>exact H.elim
     |none=>
      have D:xq M (es++ [(x,y)]) (en.push {key:=g,val:=E,born:=Q}) (Q+1):=by
       refine⟨⟨l++ [{key:=g,val:=E,born:=Q}],by rw[b?];exact hp.append_right _,jk.snoc hx hy I⟩,B.snoc λn k v hn=>YL z n k v hn,λK f=>?_,?_⟩
       ·simp at f;rcases f with f|rfl
        ·have:=c K (by simpa using f);omega
        ·simp
       ·simp only[b?,L!,List.map_cons,List.map_nil];rw[List.nodup_append];refine⟨aa,by simp,λa ha b S=>?_⟩;simp at S;subst S;obtain⟨K,f,rfl⟩:=F!.1 ha;have:=c K f
        omega
      obtain⟨t1,t2⟩:=turn _ _ D;refine⟨_,?_,rfl,t1,t2⟩;unfold z!;simp[run_underlying ht,hg,W,u!,run_underlying hd,hq,ai1 _ hb]
    ·obtain⟨q,hq,H⟩:=find_ok hf hx hp I B z;cases q with
     |none=>exact H.elim
     |some p=>
      obtain⟨j,u⟩:=p;obtain⟨_,J,K,k1,k2,k3,k4,k5⟩:=H;have aj:J=n:=by
       by_cases ab:J=n
       ·exact ab
       ·have:=B.others hn J x v ab k1;obtain⟨_,_,h2,_⟩:=YK z;rw[h2]at this;cases this
      subst aj;have af:en[j]?=some K:=by rw[<-Array.getElem?_toList];exact k3
      have D:xq M (es.set J (x,y)) (en.modify j λe=>{e with key:=g,val:=E}) Q:=by
       have ai:(en.modify j λe=>{e with key:=g,val:=E}).toList=en.toList.set j {K with key:=g,val:=E}:=by
        rw[Z!];apply H!;intro k;rw[X!,d?];by_cases Z:j=k
        ·subst Z;have C:j<en.toList.length:=(i!.1 k3).1;simp only[if_true,k3,if_pos C];rfl
        ·simp only[Z,if_false];cases en.toList[k]?<;>rfl
       have U:(en.modify j λe=>{e with key:=g,val:=E}).toList.map (·.born)=en.toList.map (·.born):=by
        rw[Z!];apply H!;intro k;simp only[G!,X!];split<;>(cases en.toList[k]?<;>rfl)
       have O:(es.set J (x,y)).map (·.1)=es.map (·.1):=by
        rw[List.map_set];apply H!;intro k;rw[d?];by_cases ac:J=k
        ·subst ac;have C:J<(es.map (·.1)).length:=by simpa using (i!.1 hn).1
         rw[if_pos rfl,if_pos C,G!,hn];rfl
        ·rw[if_neg ac]
       refine⟨⟨l.set J {K with key:=g,val:=E},by rw[ai];exact set_perm hp k2 k3,jk.set hx hy J I⟩,by unfold gU;rw[O];exact B,λe1 ad=>?_,by rw[U];exact aa⟩;have:e1.born∈en.toList.map (·.born):=by rw[<-U];exact List.mem_map_of_mem ad
       obtain⟨e2,ae,h3⟩:=F!.1 this;rw[<-h3];exact c e2 ae
      obtain⟨t1,t2⟩:=turn _ _ D;refine⟨_,?_,rfl,t1,t2⟩;unfold z!;have ag:(((en[j]?).map (·.key)).getD g)=g:=by rw[af];exact k4
      simp only[d!,run_underlying ht,c!,hg,W,u!,run_underlying hd,hq,q?,ag,k5,ai1 _ hb]
   ·cases e
  ·cases e
 ·cases e
theorem Rel.perm{i:Pos}{es f:List (V×V)}(d:Rel G M (h.put i (some (.map es))) w)(s:l! es f):Rel G M (h.put i (some (.map f))) w:=by
 have key:∀{j:Pos} {o:Ob},(h.put i (some (.map f))).get j=some o->∃o',(h.put i (some (.map es))).get j=some o'/\o'.own=o.own:=λ{j o} c=>by
  by_cases e:j=i
  ·subst e;rw[Hp.dQ]at c;cases c;exact⟨_,Hp.dQ _ _ _,rfl⟩
  ·rw[Hp.cO _ e]at c;exact⟨o,by rw[Hp.cO _ e];exact c,rfl⟩
 refine⟨λj o c=>?_,d.fresh,λa b o p L K E D hb H g C=>?_,d.gl⟩
 ·by_cases e:j=i
  ·subst e;rw[Hp.dQ]at c;cases c;obtain⟨L,g,en,t,hb,⟨l,x,y⟩,z,B⟩:=d.ob j _ (Hp.dQ _ _ _);obtain⟨k,u,v⟩:=y.perm s;exact⟨L,g,en,t,hb,⟨k,u.trans x,v⟩,z.perm s,B⟩
  ·rw[Hp.cO _ e]at c;exact d.ob j o (by rw[Hp.cO _ e];exact c)
 ·obtain⟨o',m,q⟩:=key D;obtain⟨I,n,_⟩:=key hb;exact d.sep a b o' I L K E m n (by rw[q];exact H) g C
theorem Ext.perm{M':Mp}{w':World}{b:Hp}{i:Pos}{es g:List (V×V)}(x:Ext M h w M' (b.put i (some (.map es))) w'):Ext M h w M' (b.put i (some (.map g))) w':=by
 have key:∀{j:Pos} {o:Ob},(b.put i (some (.map g))).get j=some o->∃o',(b.put i (some (.map es))).get j=some o'/\o'.own=o.own:=λ{j o} a=>by
  by_cases e:j=i
  ·subst e;rw[Hp.dQ]at a;cases a;exact⟨_,Hp.dQ _ _ _,rfl⟩
  ·rw[Hp.cO _ e]at a;exact⟨o,by rw[Hp.cO _ e];exact a,rfl⟩
 refine⟨x.le,x.next,x.os,x.tape,x.output,x.size,x.same,λj o L a l d=>?_,λj a k=>?_,λj o L a d=>?_,x.none⟩
 ·obtain⟨o',c,f⟩:=key a;exact x.own j o' L c (by rw[f];exact l) d
 ·have b:=x.old j a k;by_cases e:j=i
  ·subst e;rw[Hp.dQ]at b;cases b
  ·rw[Hp.cO _ e]at b⊢;exact b
 ·obtain⟨o',c,_⟩:=key a;exact x.all j o' L c d
def ap7(d:TypeDesc):Bool:=match d with| .int _| .string| .bool=>true|_=>false
def Eg(P:Program):List Field->Option (List (TypeDesc×Nat))
 | []=>some []
 |f::l=>(match decide (f.name= "_") with
  |true=>Eg P l
  |false=>(match P.underlying f.type with
   |some d=>(match ap7 d,Eg P l with|true,some r=>some ((d,f.offset)::r)|_,_=>none)
   |none=>none))
def Kq:List (TypeDesc×Nat)->List V->List V->Option Bool
 | [],_,_=>some true
 |(d,o)::l,xs,ys=>(match I9 o xs,I9 o ys with
  |some x,some y=>(match mZ d x,iI x y with
   |true,some b=>(match b with|true=>Kq l xs ys|false=>some false)
   |_,_=>none)
  |_,_=>none)
theorem azA{t:TypeId}{d:TypeDesc}(j:P.underlying t=some d){x y:V}{c e:Value}{b:Bool}(m:mZ d x=true)(g:Rp M x c)(i:Rp M y e)(hb:iI x y=some b)(n:Nat):(r! (n+1) t c e).run P w=.ok b w:=by
 have f:=YC m g i hb;cases d<;>cases x<;>first|(cases m;done)|skip
 all_goals cases y<;>first|(cases hb;done)|skip
 ·cases g.bool;cases i.bool;simp[a!]at f;simp[r!,run_underlying j,f]
 ·cases g.int;cases i.int;rename_i k a p a';simp only[a!]at f;split at f
  ·rename_i o;subst o;simp at f;simp[r!,run_underlying j,f]
  ·cases f
 ·cases g.str.2;cases i.str.2;simp only[a!]at f;have l:=D! f;simp only[r!,d!,run_underlying j,c!,q?,l]
theorem axq{t:TypeId}{d:TypeDesc}(a:P.underlying t=some d)(b:ap7 d=true):(isAgg t).run P w=.ok false w:=by
 simp only[isAgg,d!,run_underlying a,c!];cases d<;>first|rfl|cases b
theorem ap8{t:TypeId}{d:TypeDesc}(b:P.underlying t=some d)(e:ap7 d=true){xs:Array Value}{o:Nat}{c:Value}(a:xs[o]?=some c):(part t xs o).run P w=.ok c w:=by
 unfold part;rw[d!,axq b e];simp[a]
def V5(n:Nat)(xs ys:Array Value)(f:Field)(_:Option Bool×Unit):Sem (ForInStep (Option Bool×Unit)):=
 if f.name≠ "_" then do
  if !(<-r! (n+1) f.type (<-part f.type xs f.offset) (<-part f.type ys f.offset)) then pure (a? (some false,()))
  else pure (v! (none,()))
 else pure (v! (none,()))
theorem aq6{xs ys:List V}{cs ds:List Value}(s:bU M xs cs)(t:bU M ys ds)(n:Nat):∀{l:List Field} {a:List (TypeDesc×Nat)} {b:Bool},Eg P l=some a->Kq a xs ys=some b->
  (forIn l (none,()) (V5 n cs.toArray ds.toArray)).run P w=.ok (if b then(none,()) else(some false,())) w
 | [],a,b,g,hb=>by cases g;cases hb;rfl
 |f::l,a,b,g,hb=>by
  unfold Eg at g;rw[List.forIn_cons,d!];split at g
  ·rename_i o;have i:f.name= "_" :=by simpa using o
   have:(V5 n cs.toArray ds.toArray f (none,())).run P w=.ok (v! (none,())) w:=by simp[V5,i]
   rw[this];exact aq6 s t n g hb
  ·rename_i o;have i:¬f.name= "_" :=by simpa using o
   split at g
   ·rename_i d j;split at g
    ·rename_i r u D;cases g;unfold Kq at hb;rw[mY,mY]at hb;split at hb
     ·rename_i x y k m;obtain⟨c,v,p⟩:=s.get k;obtain⟨e,z,q⟩:=t.get m;have E:(part f.type cs.toArray f.offset).run P w=.ok c w:=ap8 j u (by simpa using v);have H:(part f.type ds.toArray f.offset).run P w=.ok e w:=ap8 j u (by simpa using z);split at hb
      ·rename_i b' B C;have I:=azA (w:=w) j B p q C n;have:(V5 n cs.toArray ds.toArray f (none,())).run P w=.ok (if b' then v! (none,()) else a? (some false,())) w:=by
        unfold V5;rw[if_pos i];simp only[d!,E,H,I,c!];cases b'<;>rfl
       rw[this];cases b' with
       |true=>exact aq6 s t n D hb
       |false=>cases hb;rfl
      ·cases hb
     ·cases hb
    ·cases g
   ·cases g
theorem azB{t:TypeId}{c:Array Field}(d:P.underlying t=some (.struct c))(f:P.stoodInHeld t=false){a:List (TypeDesc×Nat)}(e:Eg P c.toList=some a){xs ys:List V}{cs ds:List Value}(g:bU M xs cs)(i:bU M ys ds){b:Bool}(hb:Kq a xs ys=some b)(n:Nat):
  (r! (n+1+1) t (.agg cs.toArray) (.agg ds.toArray)).run P w=.ok b w:=by
 unfold r!;simp only[d!,run_underlying d,c!,run_program,f];simp only[Bool.false_eq_true,if_false];rw[<-Array.forIn_toList];have hl:=aq6 (w:=w) g i n e hb;unfold V5 at hl;rw[d!,hl];cases b<;>rfl
def structOf(d:TypeDesc):Option (Array Field):=match d with| .struct a=>some a|_=>none
def V9(P:Program)(op:BinOp)(t:TypeId)(c:Array Field)(x y:V)(h:Hp):R V:=match x,y with
 | .agg xs,.agg ys=>(match P.stoodInHeld t,P.eqGuardType P.depth t,Eg P c.toList with
  |false,false,some a=>(match Kq a xs.list ys.list with
   |some b=>(match op with| .eql=>fE b h| .neq=>fE (not b) h|_=>.bad)
   |none=>.bad)
  |_,_,_=>.bad)
 |_,_=>.bad
theorem azS{op:BinOp}{t:TypeId}{i:Array Field}{v z:Operand}(o:P.underlying t=some (.struct i)){x y:V}{a b:Value}(k:Rel G M h w)(s:Rp M x a)(u:Rp M y b)(e:V9 P op t i x y h=.ok r h'):
  Good P G M h w (do eqGuard op t v z a b;binOp op t a b) r h':=by
 unfold V9 at e;split at e
 ·rename_i xs ys;obtain⟨cs,f,_,rfl⟩:=s.agg;obtain⟨ds,g,_,rfl⟩:=u.agg;split at e
  ·rename_i l m j n;split at e
   ·rename_i q p;have d:=azB (w:=w) o m n f g p 9998;have heq:(Op.equal t (.agg cs.toArray) (.agg ds.toArray)).run P w=.ok q w:=by
     unfold Op.equal;rw[show Op.maxDepth=9998+1+1 from rfl];exact d
    split at e
    ·rw[fK]at e;cases e;refine .same k (c:=.bool q) ?_ (xP M q);simp[eqGuard,binOp,j,heq]
    ·rw[fK]at e;cases e;refine .same k (c:=.bool (!q)) ?_ (xP M _);simp[eqGuard,binOp,j,heq]
    ·cases e
   ·cases e
  ·cases e
 ·cases e
def alW(x:V)(h:Hp):R V:=match x with
 | .aQ=>.ok (.int .i64 (.ofNat 0)) h
 | .slice _ _ _ c=>(match c with| .kn n=>.ok (.int .i64 (.ofNat n)) h| .un _=>.bad)
 |_=>.bad
theorem azL{t ty el:TypeId}(b:P.underlying t=some (.slice el)){x:V}{a:Value}(d:Rel G M h w)(f:Rp M x a)(e:alW x h=.ok r h'):Good P G M h w (Q! #[t] ty #[a]) r h':=by
 unfold alW at e;split at e
 ·cases e;cases f.aQ;refine .same d (c:=.int .i64 (.ofNat 0)) ?_ (gB M _ _);simp[Q!,run_underlying b,goInt]
 ·rename_i i o n c;obtain⟨L,k,j,g,rfl⟩:=f.slice;split at e
  ·rename_i m;cases e;obtain⟨rfl,_⟩:=g;refine .same d (c:=.int .i64 (.ofNat k)) ?_ (gB M _ _);simp[Q!,run_underlying b,goInt]
  ·cases e
 ·cases e
def ajg(sz:Nat)(d s:V)(h:Hp):R V:=match d with
 | .slice i o n _=>vT sz s h λm new=>(match e? m n with
  |true=>(match m with
   |0=>.ok (.int .i64 (.ofNat 0)) h
   |_+1=>dP h i λwr cs=>(match wr with
    | .rw t f=>(match iZ o new cs with|some a=>.ok (.int .i64 (.ofNat m)) (h.put i (some (.cells (.rw t f) a)))|none=>.bad)
    | .ro=>.bad))
  |false=>.bad)
 |_=>.bad
theorem apU{t t2 ty el:TypeId}{ti:TypeInfo}(e:P.underlying t=some (.slice el))(d:P.info? el=some ti){a:Addr}{n k m:Nat}{c:Value}{news:List Value}(hl:(Builtin.lenOf c).run P w=.ok m w)(f:(Builtin.firstCells ti.size m c).run P w=.ok news.toArray w)(g:m<=n){w':World}
  (i:(storeCells a news).run P w=.ok () w'):(O! #[t,t2] ty #[.slice (some a) n k,c]).run P w=.ok (.int .i64 (.ofNat m)) w':=by
 have b:Nat.min m n=m:=Nat.min_eq_left g;simp only[O!,List.getElem?_toArray,List.getElem?_cons_zero,List.getElem?_cons_succ,d!,run_underlying e,c!,hl,b,sizeOf,typeInfo];simp[d,f,i,goInt]
theorem aEK{t t2 ty el:TypeId}{ti:TypeInfo}(v:P.underlying t=some (.slice el))(j:P.info? el=some ti){x y:V}{a b:Value}(u:Rel G M h w)(H:Rp M x a)(I:Rp M y b)(e:ajg ti.size x y h=.ok r h'):Good P G M h w (O! #[t,t2] ty #[a,b]) r h':=by
 unfold ajg at e;split at e
 ·rename_i i o n cap;obtain⟨L,k,D,J,rfl⟩:=H.slice;obtain⟨m,new,news,e,d,f,p,s,c⟩:=afl (P:=P) u I e;split at e
  ·rename_i l;have l:=p! l;have g:=f.length;cases m with
   |zero=>
    cases e;have q:news= []:=List.length_eq_zero_iff.1 (by rw[g,p];omega);subst q;exact .same u (apU v j d (c w rfl) l (by simp[storeCells])) (gB M _ _)
   |succ m=>
    simp only[]at e;obtain⟨wr,cs,hi,e⟩:=fZ e;split at e
    ·split at e
     ·rename_i E;cases e;obtain⟨w',z,B,C⟩:=u.store (P:=P) (pV hi) D E f s;exact⟨_,w',M,apU v j d (c w rfl) l z,gB M _ _,B,C⟩
     ·cases e
    ·cases e
  ·cases e
 ·cases e
def KT(zs:List V)(x:V)(h:Hp):R V:=match x with
 | .aQ=>.ok V.undef h
 | .slice i o n _=>(match n with
  |0=>.ok V.undef h
  |m+1=>dP h i λwr cs=>(match wr with
   | .rw t f=>(match iZ o (times (m+1) zs) cs with|some a=>.ok V.undef (h.put i (some (.cells (.rw t f) a)))|none=>.bad)
   | .ro=>.bad))
 |_=>.bad
theorem aCp{t ty el:TypeId}{ti:TypeInfo}{z:Value}(c:P.underlying t=some (.slice el))(E:ElemOk P el ti z){zs:List V}(f:bU M zs z.cells.toList){x:V}{a:Value}(d:Rel G M h w)(j:Rp M x a)(e:KT zs x h=.ok r h'):
  Good P G M h w (A! #[t] ty #[a]) r h':=by
 unfold KT at e;split at e
 ·cases e;cases j.aQ;exact .same d (by simp[A!,run_underlying c];rfl) (oC M)
 ·rename_i i o n cap;obtain⟨L,k,q,u,rfl⟩:=j.slice;split at e
  ·cases e;exact .same d (by simp[A!,run_underlying c];rfl) (oC M)
  ·rename_i m;obtain⟨wr,cs,hi,e⟩:=fZ e;split at e
   ·split at e
    ·rename_i s;cases e;have b:(b! z.cells (m+1)).toList=(o! (m+1) z.cells.toList).flatten:=by
      unfold b!;exact DF z.cells (m+1) (by rw[E.cells];exact E.size)
     obtain⟨w',g,l,p⟩:=d.store (P:=P) (pV hi) q s (Tj f (m+1)) (by rw[<-b];exact Nc E.plain (by rw[E.cells];exact E.size) (m+1));refine⟨_,w',M,?_,oC M,l,p⟩;rw[<-b]at g;simp[A!,run_underlying c,zeroValue,typeInfo,E.info,E.zero,g];rfl
    ·cases e
   ·cases e
 ·cases e
def aqC(el:TypeId)(sz bt:Nat)(zs:List V)(s x:V)(h:Hp):R V:=kY x λn=>
 match e? (Nat.mul n bt) 140737488355328 with
 |true=>aeT el sz bt s n (times n zs) h
 |false=>.bad
theorem aiI{z:Array Value}(a:0<z.size)(n:Nat):(b! z n).toList=(o! n z.toList).flatten:=by
 unfold b!;exact DF z n a
theorem ayo{t t2 ty el:TypeId}{Z:IntKind}{ti:TypeInfo}{z:Value}(I:P.underlying t=some (.slice el))(m:P.underlying t2=some (.int Z))(E:ElemOk P el ti z){zs:List V}(C:bU M zs z.cells.toList)
  {s x:V} {a c:Value} (U:Rel G M h w) (W:Rp M s a) (X:Rp M x c) (D:aqC el ti.size ti.bytes zs s x h=.ok r h'):Good P G M h w (x! #[t,t2] ty #[a,c]) r h':=by
 obtain⟨kk,n,rfl,e⟩:=oH D;clear D;cases X.int;split at e;rotate_left
 ·cases e
 rename_i hb;have O:n*ti.bytes<=140737488355328:=p! hb;have hn:n<=n*ti.bytes:=T! _ E.bytes;have J:IntKind.i64.wrap (n:Int)=n:=wrap_in (by omega) (by omega);have h0:¬((n:Int)<0):=by omega
 have H:¬(281474976710656<(n:Int)*(ti.bytes:Int)):=by
  have:((n*ti.bytes:Nat):Int)<=140737488355328:=by omega
  rw[Int.natCast_mul]at this;omega
 have i:∀(k:IntKind) (w':World),(Go.asInt (Value.int k (n:Int))).run P w'=.ok (n:Int) w':=λ_ _=>rfl;have d:=Tj C n;have b:=aiI (z:=z.cells) (by rw[E.cells];exact E.size) n;have l:(times n zs).length=n*ti.size:=by
  have L:(b! z.cells n).toList.length=n*ti.size:=by simp[b!,E.cells]
  rw[<-L,b];exact d.length.symm
 have o:(if n*ti.size=0 then(pure #[]:Sem (Array Value)) else pure (b! z.cells n))=pure (o! n z.cells.toList).flatten.toArray:=by
  split
  ·rename_i h;have:n=0:=(N!.1 h).resolve_right (by have:=E.size;omega);subst this;rfl
  ·rw[<-b]
 refine aft (news:=(o! n z.cells.toList).flatten) E U W d l (by rw[<-b];exact Nc E.plain (by rw[E.cells];exact E.size) n) (λ{base k cap} j=>?_) (λ{K base k cap} Q q hbb p=>?_) e
 ·have Y:∀w':World,(if n*ti.size=0 then(pure #[]:Sem (Array Value)) else pure (b! z.cells n)).run P w'=.ok (o! n z.cells.toList).flatten.toArray w':=λw'=>by rw[o];rfl
  cases base<;>simp[x!,run_underlying I,run_underlying m,sizeOf,typeInfo,zeroValue,E.info,E.zero,i,J,h0,H,j];all_goals (
   by_cases y:n=0
   ·subst y;simp
   ·have v:¬(n*ti.size=0):=λh=>(N!.1 h).elim y (by have:=E.size;omega);simp[v,y,b])
 ·have u:¬(k+n<=cap):=by omega
  have j:k+n<=(k+n)*ti.bytes:=T! _ p;have g:¬(9223372036854775807<((k:Int)+(n:Int))):=by omega
  have N:=growslice_fits (bytes:=ti.bytes) q hbb;have f:¬(281474976710656<Builtin.nextslicecap (k+n) cap*ti.bytes):=by omega
  simp[x!,run_underlying I,run_underlying m,sizeOf,typeInfo,zeroValue,E.info,E.zero,i,J,h0,H,u,g,f,Question.forced,Q,newRow,grownCap];have B:b! z.cells n=(o! n z.cells.toList).flatten.toArray:=by apply g!;rw[b]
  split
  ·rename_i S;have:n=0:=(N!.1 S).resolve_right (by have:=E.size;omega);subst this;simp
  ·rw[B];congr 3;apply g!;simp
def Az(x:V)(h:Hp):R V:=match x with
 | .aQ=>.ok .bP h
 | .slice i o n _=>(match n with|0=>.bad|_+1=>.ok (.ptr i o) h)
 |_=>.bad
theorem apQ{ts:Array TypeId}{ty:TypeId}{x:V}{a:Value}(b:Rel G M h w)(c:Rp M x a)(e:Az x h=.ok r h'):Good P G M h w (Builtin.unsafeSliceData_ ts ty #[a]) r h':=by
 unfold Az at e;split at e
 ·cases e;cases c.aQ;exact .same b (Go.Lib.run_unsafeSliceData_nil w ts ty 0 0) ⟨rfl,rfl⟩
 ·rename_i i o n cap;obtain⟨L,k,d,f,rfl⟩:=c.slice;split at e
  ·cases e
  ·rename_i m;cases e;refine .same b (Go.Lib.run_unsafeSliceData_row w ts ty (L.at o) (m+1) k ?_) (xg d o);cases cap<;>simp only[ae8]at f<;>omega
 ·cases e
def FC(u:TypeId)(x n:V)(h:Hp):R V:=kY n λn=>match x with
 | .bP=>(match n with|0=>.ok (.str []) h|_+1=>.bad)
 | .ptr i o=>(match n with
  |0=>.ok (.str []) h
  |_+1=>dP h i λwr cs=>(match wr with
   | .rw t _=>(match q! t u with
    |true=>(match gm n (fB o cs) with
     |some l=>(match rF l with
      |some s=>(match e? s.length 9223372036854775807 with|true=>.ok (.str s) (h.put i (some (.cells .ro cs)))|false=>.bad)
      |none=>.bad)
     |none=>.bad)
    |false=>.bad)
   | .ro=>.bad))
 |_=>.bad
theorem ajp{e:TypeId}(b:P.cellsOf e=1)(count off n:Nat)(c:off+n<=count):liesAt P P.depth e count off e n=true:=by
 have a:P.depth=(2*(P.types.size+Made.depth)+1)+1:=rfl;rw[a];simp only[liesAt,Bool.or_eq_true];left;rw[a];simp[rowAt,b,c,sameLayout,Nat.mod_one]
theorem abN{pt it ty e:TypeId}(q:P.underlying pt=some (.pointer e))(n:P.cellsOf e=1){g off cells:Nat}(m:w.shape? g=some (e,cells)){l:List UInt8}(h0:l≠ [])(p:off+l.length<=cells)(o:l.length<=9223372036854775807)
  (a:∀j x,l[j]?=some x->w.cell? ((⟨g,off,none⟩:Addr).add j)=some (.int .u8 x.toNat)) {k:IntKind}:
  (y! #[pt,it] ty #[.pointer (some ⟨g,off,none⟩),.int k l.length]).run P w=.ok (.string ⟨l.toArray⟩) (w.freeze ⟨g,off,none⟩ l.length):=by
 have hl:l.length≠0:=by simpa using h0
 have i:=Go.Lib.run_loadBytes (P:=P) w l ⟨g,off,none⟩ .empty a;have b:=ajp (P:=P) n (cells / P.cellsOf e) off l.length (by rw[n];simpa using p);have c:¬(9223372036854775807:Int)<(l.length:Int):=by omega
 have d:IntKind.i64.max=9223372036854775807:=rfl;have f:¬(l.length:Int)<0:=by omega
 show(bind (_root_.Go.asInt (.int k l.length)) _:Sem Value).run P w=_;simp[_root_.Go.asInt,asIntOf,d,c,f,hl,variablesAt,m,elemOf,run_underlying q,b,i]
theorem apy{pt it ty u:TypeId}(hp:P.underlying pt=some (.pointer u))(X:P.cellsOf u=1){x y:V}{a b:Value}(N:Rel G M h w)(hx:Rp M x a)(hy:Rp M y b)(e:FC u x y h=.ok r h'):
  Good P G M h w (y! #[pt,it] ty #[a,b]) r h':=by
 obtain⟨k,n,rfl,e1⟩:=oH e;clear e;cases hy.int;have v:∀p:Option Addr,(y! #[pt,it] ty #[.pointer p,.int k (Int.ofNat 0)]).run P w=.ok (.string .empty) w:=by
  intro p;have ag:IntKind.i64.max=9223372036854775807:=rfl;cases p with
  |none=>
   rfl
  |some a=>
   rfl
 have he:Rp M (.str []) (.string .empty):=PX (s:= []) (by simp);split at e1
 ·cases hx.bP;split at e1
  ·cases e1;exact .same N (v _) he
  ·cases e1
 ·rename_i i o;obtain⟨L,W,rfl⟩:=hx.ptr;split at e1
  ·cases e1;exact .same N (v _) he
  ·rename_i m;obtain⟨wr,cs,hi,e2⟩:=fZ e1;split at e2
   ·rename_i t f;split at e2
    ·rename_i ad;have O:t=u:=e! ad;subst O;split at e2
     ·rename_i l hl;split at e2
      ·rename_i s hs;split at e2;rotate_left
       ·cases e2
       rename_i B;have B:=p! B;cases e2;have K:=pV hi;obtain⟨L',I,U,D,fr,hb,ac,E,Y,ah,_⟩:=N.ob i _ K;rw[W]at I;cases I;subst Y;obtain⟨xs,ae,af,ai,Q⟩:=N.cells hi W hl;obtain⟨c,S⟩:=anK hs ae;have ab:s.length=m+1:=by
        have:=congrArg List.length S;simp at this;omega
       have aa:w.shape? L.blk=some (D,U.size):=by simp[j?,hb]
       have Z:L.off+o+(m+1)<=U.size:=by
        have h1:=Q m xs[m] (j! (by omega));have h2:w.cell? ((L.at o).add m)=U[L.off+o+m]?:=by
         by_cases J:m=0
         ·subst J;simp[Loc.at,Addr.add,l?,hb]
         ·simp[Loc.at,Addr.add,J,l?,hb]
        rw[h2]at h1;have:=(P!.1 h1).1;omega
       ·have d:(s.map UInt8.ofNat).length=m+1:=by simp[ab]
        have C:=abN (P:=P) (w:=w) (pt:=pt) (it:=it) (ty:=ty) (e:=D) hp X (g:=L.blk) (off:=L.off+o) aa (l:=s.map UInt8.ofNat) (by intro hn;rw[hn]at d;simp at d) (by rw[d];exact Z) (by rw[d];omega) (λj y H=>by
         rw[G!]at H;cases z:s[j]? with
         |none=>rw[z]at H;cases H
         |some b=>
          rw[z]at H;simp only[Option.map_some,v?]at H;subst H;have h3:xs[j]?=some (.int .u8 (b:Int)):=by rw[S];simp[z]
          have h4:=Q j _ h3;rw[PO (c b (h! z))];exact h4) (k:=k)
        rw[d]at C;have ht:=N.turn K W rfl (w':=w.freeze ⟨L.blk,L.off+o,none⟩ (m+1)) (o':=.cells .ro cs) (by simp[R!]) (λq hq=>by
         simp only[R!];rw[if_neg (by omega),U!,if_neg (Ne.symm hq)]) rfl rfl rfl (by
         refine⟨U,D,(if fr.1==fr.2 then(L.off+o,L.off+o+(m+1)) else(min fr.1 (L.off+o),max fr.2 (L.off+o+(m+1)))),?_,ac,E,trivial⟩;simp only[R!];rw[if_neg (by omega),U!,if_pos rfl,hb];rfl)
        exact⟨_,_,M,C,PX c,ht.1,ht.2⟩
      ·cases e2
     ·cases e2
    ·cases e2
   ·cases e2
 ·cases e1
def alU(x:V)(h:Hp):R V:=match x with
 | .bP=>.ok .bP h
 | .ptr i o=>dP h i λ_ cs=>(match I9 o cs with|some _=>.ok (.ptr i o) h|none=>.bad)
 |_=>.bad
theorem aHR{s d t:TypeId}(l:P.underlying s=some (.pointer t))(k:P.underlying d=some .unsafePointer){ti:TypeInfo}(g:P.info? t=some ti)(f:ti.size≠0){x:V}{a:Value}(b:Rel G M h w)(m:Rp M x a)(e:alU x h=.ok r h'):Good P G M h w (convert s d a) r h':=by
 unfold alU at e;split at e
 ·cases e;cases m.bP;refine .same b (c:=.pointer none) ?_ ⟨rfl,rfl⟩;simp[convert,run_underlying l,run_underlying k,E!]
 ·rename_i i o;obtain⟨L,j,rfl⟩:=m.ptr;obtain⟨wr,cs,hi,e⟩:=fZ e;rw[mY]at e;split at e
  ·rename_i v n;cases e;obtain⟨y,p,_,_⟩:=b.cell hi j n;exact .same b (run_convert_to_unsafe l k (by simp[g,f]) p) (xg j o)
  ·cases e
 ·cases e
def V8(P:Program)(u:TypeId)(x:V)(h:Hp):R V:=match x with
 | .bP=>.ok .bP h
 | .ptr i o=>dP h i λwr cs=>(match wr with
  | .rw t full=>(match full,I9 o cs,liesAt P P.depth t (cs.length / P.cellsOf t) o u 1 with
   |true,some _,true=>.ok (.ptr i o) h
   |_,_,_=>.bad)
  | .ro=>.bad)
 |_=>.bad
theorem aCa{s d u:TypeId}(I:P.underlying s=some .unsafePointer)(H:P.underlying d=some (.pointer u)){S:TypeInfo}(B:P.info? u=some S){x:V}{a:Value}(l:Rel G M h w)(K:Rp M x a)(e:V8 P u x h=.ok r h'):Good P G M h w (convert s d a) r h':=by
 unfold V8 at e;split at e
 ·cases e;cases K.bP;refine .same l (c:=.pointer none) ?_ ⟨rfl,rfl⟩;simp[convert,run_underlying I,run_underlying H,E!]
 ·rename_i i o;obtain⟨L,n,rfl⟩:=K.ptr;obtain⟨wr,cs,hi,e⟩:=fZ e;split at e
  ·rename_i t full;split at e
   ·rename_i v J C;cases e;rw[mY]at J;obtain⟨y,W,_,_⟩:=l.cell hi n J;obtain⟨U,g,m,f,fr,hb,E,q,z,N,b⟩:=l.ob i _ (pV hi);rw[n]at g;cases g;subst z;obtain⟨j,O⟩:=b rfl;have D:w.shape? L.blk=some (f,m.size):=by simp[j?,hb]
    have k:w.shape? (L.at o).block=some (f,m.size):=D;have Q:(L.at o).off=o:=by simp[Loc.at,j]
    have p:m.size=cs.length:=by rw[E,O]
    refine .same l (c:=.pointer (some (L.at o))) ?_ (xg n o);simp[convert,run_underlying I,run_underlying H,E!,Conv.seenAt,viewAt,sizeOf,typeInfo,variablesAt,k,Q,p,C,B]
   ·cases e
  ·cases e
 ·cases e
abbrev Fun:=List V->Hp->R V
def Post(G:Nat)(M:Mp)(h:Hp)(w:World)(r:V)(h':Hp)(c:Value)(w':World):Prop:=∃M',Rp M' r c/\Rel G M' h' w'/\Ext M h w M' h' w'
def Opq(P:Program)(post:Value->World->Prop):Result Next->Prop
 | .ok (.value c) w'=>post c w'
 | .ok .skip w'=>post undef w'
 | .ok (.enter f args) w'=>Calls P f args w' λe a=>∃c,e=.returned c/\post c a
 |_=>False
theorem Good.opq{s:Sem Value}(g:Good P G M h w s r h'):Opq P (Post G M h w r h') ((do pure (.value (<-s)):Sem Next).run P w):=by
 obtain⟨c,w',M',e,a,b,d⟩:=g;simp[e];exact⟨M',a,b,d⟩
def aG(P:Program)(G:Nat)(f:FuncId)(F:Fun):Prop:=
 ∀(args:List V) (h:Hp) (r:V) (h':Hp) (M:Mp) (w:World) (cargs:List Value),F args h=.ok r h'->Rel G M h w->bU M args cargs->
  Opq P (Post G M h w r h') ((callFunc f cargs.toArray).run P w)
def Kr(P:Program)(el:TypeId):Option TypeInfo:=match P.info? el with
 |none=>none
 |some ti=>(match ti.zero with
  |none=>none
  |some z=>(match q! z.cells.size ti.size,z.cells.toList.all scalar,t? 0 ti.size,t? 0 ti.bytes with
   |true,true,true,true=>some ti
   |_,_,_,_=>none))
theorem zC{el:TypeId}{ti:TypeInfo}(e:Kr P el=some ti):∃z,ElemOk P el ti z:=by
 unfold Kr at e;split at e
 ·cases e
 ·rename_i i hi;split at e
  ·cases e
  ·rename_i z g;split at e
   ·rename_i a b c d;cases e;exact⟨z,hi,g,e! a,λy f=>List.all_eq_true.1 b y f,by simpa[c?]using c,by simpa[c?]using d⟩
   ·cases e
def XP(P:Program)(t:TypeId):Option (List V):=match P.info? t with
 |none=>none
 |some it=>(match it.zero with
  |none=>none
  |some z=>FK z.cells.toList)
theorem IZ{t:TypeId}{zs:List V}(e:XP P t=some zs):∃it z,P.info? t=some it/\it.zero=some z/\∀M:Mp,bU M zs z.cells.toList/\∀y∈z.cells.toList,scalar y=true:=by
 unfold XP at e;split at e
 ·cases e
 ·rename_i it hit;split at e
  ·cases e
  ·rename_i z a;exact⟨it,z,hit,a,λM=>zD e M⟩
def atH(P:Program)(a:List Field):Option (List (Nat×Nat)):=a.mapM λf=>(P.info? f.type).map λi=>(f.offset,i.size)
def ams(d:TypeDesc):Bool:=match d with| .struct _| .array _ _=>true|_=>false
def alP(P:Program)(d:TypeDesc):Option Nat:=match d with
 | .pointer e=>(match P.info? e with|some ti=>some ti.size|none=>none)
 |_=>some 0
def dK(e:FuncId->Option Fun)(f:V)(args:List V)(h:Hp):R V:=match f with
 | .func fn a b=>(match fn with
  | .func g=>(match e g with|some F=>F (a.list++(args++b.list)) h|none=>.bad)
  |_=>.bad)
 |_=>.bad
def Yu(P:Program)(b:Builtin)(ts:List TypeId)(vs:List V)(h:Hp):R V:=
 match b,ts,vs with
 | .len,[t],[x]=>(match P.underlying t with
  |some (.array n _)=>auY n h
  |some d=>aZ (xR d) x h
  |none=>.bad)
 | .append,[t,t2],[s,x]=>(match P.underlying t,P.underlying t2 with
  |some (.slice el),some (.slice _)=>(match Kr P el with|some ti=>cZ el ti.size ti.bytes s x h|none=>.bad)
  |some (.slice el),some .string=>(match Kr P el with|some ti=>cZ el ti.size ti.bytes s x h|none=>.bad)
  |some (.slice el),some (.int _)=>(match Kr P el with
   |some ti=>(match ti.zero with
    |some z=>(match FK z.cells.toList with|some zs=>aqC el ti.size ti.bytes zs s x h|none=>.bad)
    |none=>.bad)
   |none=>.bad)
  |_,_=>.bad)
 | .cap,[t],[x]=>(match P.underlying t with
  |some (.slice _)=>alW x h
  |_=>.bad)
 | .copy,[t,_],[x,y]=>(match P.underlying t with
  |some (.slice el)=>(match P.info? el with|some ti=>ajg ti.size x y h|none=>.bad)
  |_=>.bad)
 | .unsafeSliceData,_,[x]=>Az x h
 | .unsafeString,[pt,_],[x,y]=>(match P.underlying pt with
  |some (.pointer u)=>(match q! (P.cellsOf u) 1 with|true=>FC u x y h|false=>.bad)
  |_=>.bad)
 | .min,_,[x,y]=>axG x y h
 | .max,_,[x,y]=>aqj x y h
 | .clear,[t],[x]=>(match P.underlying t with
  |some (.slice el)=>(match Kr P el with
   |some ti=>(match ti.zero with
    |some z=>(match FK z.cells.toList with|some zs=>KT zs x h|none=>.bad)
    |none=>.bad)
   |none=>.bad)
  |_=>.bad)
 |_,_,_=>.bad
def v0(vs:List V)(k:R V):R V:=match vs with| []=>k|_=>.bad
def v1(vs:List V)(k:V->R V):R V:=match vs with| [x]=>k x|_=>.bad
def v2(vs:List V)(k:V->V->R V):R V:=match vs with| [x,y]=>k x y|_=>.bad
def v3(vs:List V)(k:V->V->V->R V):R V:=match vs with| [x,y,z]=>k x y z|_=>.bad
theorem aJ6{vs:List V}{k:R V}(e:v0 vs k=.ok r h'):vs= []/\k=.ok r h':=by
 unfold v0 at e;split at e<;>first|exact⟨rfl,e⟩|cases e
theorem Au{vs:List V}{k:V->R V}(e:v1 vs k=.ok r h'):∃x,vs= [x]/\k x=.ok r h':=by
 unfold v1 at e;split at e<;>first|exact⟨_,rfl,e⟩|cases e
theorem Ti{vs:List V}{k:V->V->R V}(e:v2 vs k=.ok r h'):∃x y,vs= [x,y]/\k x y=.ok r h':=by
 unfold v2 at e;split at e<;>first|exact⟨_,_,rfl,e⟩|cases e
theorem axg{vs:List V}{k:V->V->V->R V}(e:v3 vs k=.ok r h'):∃x y z,vs= [x,y,z]/\k x y z=.ok r h':=by
 unfold v3 at e;split at e<;>first|exact⟨_,_,_,rfl,e⟩|cases e
def arn(P:Program)(t:TypeId)(is:List Nat)(vs:List V)(h:Hp):R V:=match P.underlying t,XP P t with
 |some (.struct b),some z=>(match atH P b.toList with
  |some pl=>(match placed (λi=>pl.toArray[i]?) (is.zip vs) with|some qs=>bQ z qs h|none=>.bad)
  |none=>.bad)
 |some (.array _ el),some z=>(match P.info? el with
  |some a=>(match placed (λi=>some (i*a.size,a.size)) (is.zip vs) with|some qs=>bQ z qs h|none=>.bad)
  |none=>.bad)
 |_,_=>.bad
def aIq(P:Program)(t:TypeId)(vs:List V)(h:Hp):R V:=match vs with
 | []=>(match P.underlying t with
  |some (.slice el)=>(match P.info? el with|some _=>.ok (.slice h.next 0 0 (.kn 0)) (h.new (.cells (.rw el true) []))|none=>.bad)
  |_=>.bad)
 |_=>.bad
def afr(P:Program)(t:TypeId)(len:Nat)(is:List Nat)(vs:List V)(h:Hp):R V:=match P.underlying t with
 |some (.slice el)=>(match Kr P el with
  |some ti=>(match ti.zero with
   |some z=>(match FK ((p? (len*ti.size)).map (z.cells[· % z.cells.size]!)).toList,placed (λi=>some (i*ti.size,ti.size)) (is.zip vs),t? 0 len,e? (len*ti.size) 16777216 with
    |some zs,some qs,true,true=>bY el zs len qs h
    |_,_,_,_=>.bad)
   |none=>.bad)
  |none=>.bad)
 |_=>.bad
def AV(P:Program)(t:TypeId)(x:V)(h:Hp):R V:=match P.underlying t with
 |some d=>(match ams d with
  |true=>(match P.info? t with|some ti=>bT ti.size x h|none=>.bad)
  |false=>aF x h)
 |none=>.bad
def ayd(P:Program)(op:BinOp)(t:TypeId)(lit:Bool)(x y:V)(h:Hp):R V:=match P.underlying t with
 |some d=>(match structOf d with
  |some a=>V9 P op t a x y h
  |none=>(match alP P d with|some sz=>aJ op (aeO d sz lit) x y h|none=>.bad))
 |none=>.bad
def wF(P:Program)(s d:TypeId)(x:V)(h:Hp):R V:=match P.underlying s,P.underlying d with
 |some _,some (.int k)=>kT k x h
 |some .string,some .string=>QB x h
 |some .string,some (.slice el)=>(match P.underlying el with|some (.int .u8)=>Eh x h|_=>.bad)
 |some (.slice el),some .string=>(match P.underlying el with|some (.int .u8)=>zq x h|_=>.bad)
 |some (.slice _),some (.slice el)=>(match q! s d,P.underlying el with|true,some (.int .u8)=>aqk x h|_,_=>.bad)
 |some (.pointer t),some .unsafePointer=>(match P.info? t with|some ti=>(match q! ti.size 0 with|false=>alU x h|true=>.bad)|none=>.bad)
 |some .unsafePointer,some (.pointer u)=>(match P.info? u with|some _=>V8 P u x h|none=>.bad)
 |_,_=>.bad
def ark(P:Program)(t:TypeId)(x:V)(h:Hp):R V:=match P.underlying t with
 |some (.interface _)=>.bad
 |some _=>aqn t x h
 |none=>.bad
def ayc(fn:Fn)(m n:Nat)(vs:List V)(h:Hp):R V:=match q! vs.length (m+n) with
 |true=>eP fn (vs.take m) (vs.drop m) h
 |false=>.bad
def ajC(P:Program)(t:TypeId)(l c:V)(h:Hp):R V:=match P.underlying t with
 |some (.slice el)=>(match Kr P el,XP P el with|some ti,some z=>vZ el ti.bytes z l c h|_,_=>.bad)
 |_=>.bad
def QL(P:Program)(t:TypeId)(x:V)(lo hi mx:Option V)(h:Hp):R V:=match P.underlying t with
 |some .string=>(match mx with|none=>Ei x lo hi h|some _=>.bad)
 |some (.slice el)=>(match P.info? el with|some ti=>aeD ti.size x lo hi mx h|none=>.bad)
 |some (.array n el)=>(match P.info? el with|some ti=>KR ti.size n x lo hi mx h|none=>.bad)
 |_=>.bad
def arl(P:Program)(t:TypeId)(n:Nat)(x:V)(h:Hp):R V:=match P.underlying t with
 |some (.struct a)=>(match a[n]? with
  |some f=>(match P.info? f.type with
   |some ti=>(match q! ti.size 0 with|false=>aC f.offset x h|true=>.bad)
   |none=>.bad)
  |none=>.bad)
 |_=>.bad
def YP(P:Program)(t:TypeId)(x i:V)(h:Hp):R V:=match P.underlying t with
 |some (.slice el)=>(match P.info? el with|some ti=>bJ ti.size x i h|none=>.bad)
 |some (.array n el)=>(match P.info? el with|some ti=>axI n ti.size x i h|none=>.bad)
 |_=>.bad
def arj(P:Program)(t:TypeId)(x i:V)(h:Hp):R V:=match P.underlying t with
 |some .string=>mX x i h
 |_=>.bad
def VT(d:TypeDesc)(ok:Bool)(z m x:V)(h:Hp):R V:=match mZ d x with|true=>VS ok z m x h|false=>.bad
def fP(d:TypeDesc)(m x y:V)(h:Hp):R V:=match mZ d x with|true=>vY m x y h|false=>.bad
def V7(P:Program)(t:TypeId)(ok:Bool)(m x:V)(h:Hp):R V:=match P.underlying t with
 |some (.map c a)=>(match P.underlying c,P.info? a with
  |some d,some b=>(match b.zero with
   |some e=>(match const e with|some z=>VT d ok z m x h|none=>.bad)
   |none=>.bad)
  |_,_=>.bad)
 |_=>.bad
def AU(P:Program)(t:TypeId)(m x y:V)(h:Hp):R V:=match P.underlying t with
 |some (.map a _)=>(match P.underlying a with
  |some d=>(match mZ d x with|true=>vY m x y h|false=>.bad)
  |none=>.bad)
 |_=>.bad
def arf(r:Option Operand)(vs:List V)(h:Hp):R V:=match r,vs with
 |none,[]=>X9 h
 |_,_=>.bad
def apq(P:Program)(e:FuncId->Option Fun)(c:Call)(vs:List V)(h:Hp):R V:=match c.callee with
 | .value _=>(match vs with|f::args=>dK e f args h| []=>.bad)
 | .builtin b=>Yu P b c.argTypes.toList vs h
 | .invoke _ _=>.bad
def ahs(x:Option Operand)(vs:List V)(k:Option V->List V->R V):R V:=match x with
 |none=>k none vs
 |some _=>(match vs with|v::r=>k (some v) r| []=>.bad)
def avn(P:Program)(t:TypeId)(n:Nat)(x:V)(h:Hp):R V:=match P.underlying t with
 |some (.struct a)=>(match a[n]? with
  |some f=>(match P.underlying f.type,P.info? f.type with
   |some d,some ti=>axF (ams d) ti.size f.offset x h
   |_,_=>.bad)
  |none=>.bad)
 |_=>.bad
theorem aEd{t:TypeId}{d:TypeDesc}{ti:TypeInfo}(m:P.underlying t=some d)(j:P.info? t=some ti){off:Nat}{x:V}{a:Value}(n:Rel G M h w)(q:Rp M x a)(e:axF (ams d) ti.size off x h=.ok r h'):
  Good P G M h w (do part t (<-asAgg a) off) r h':=by
 unfold axF at e;split at e
 ·rename_i l;obtain⟨xs,hl,p,rfl⟩:=q.agg;split at e
  ·rename_i b;split at e
   ·rename_i v f;cases e;rw[au4]at f;obtain⟨y,k,i⟩:=hl.get f;refine .same n (c:=y) ?_ i;have g:(isAgg t).run P w=.ok false w:=by rw[Tq m];cases d<;>first|rfl|(cases b)
    simp[asAgg,part,g,k]
   ·cases e
  ·rename_i b;split at e
   ·rename_i vs f;cases e;obtain⟨o,rfl⟩:=PS _ f;rw[jH]at o⊢;have g:(isAgg t).run P w=.ok true w:=by rw[Tq m];cases d<;>first|rfl|(cases b)
    refine .same n (c:=.agg ((xs.drop off).take ti.size).toArray) ?_ (ack ((hl.drop off).take ti.size) λy k=>p y (List.mem_of_mem_drop (List.mem_of_mem_take k)));simp[asAgg,part,g,sizeOf,typeInfo,j]
   ·cases e
 ·cases e
theorem aCd{t:TypeId}{b:Array Field}{n:Nat}{f:Field}(k:P.underlying t=some (.struct b))(l:b[n]?=some f){a:Value}(g:Good P G M h w (do part f.type (<-asAgg a) f.offset) r h'):
  Good P G M h w (o? t a n) r h':=by
 obtain⟨c,w',M',e,d,i,j⟩:=g;refine⟨c,w',M',?_,d,i,j⟩;rw[<-e];simp[o?,run_underlying k,l]
def iH(P:Program)(e:FuncId->Option Fun)(op:Op)(vs:List V)(h:Hp):R V:=
 match op with
 | .move _=>v1 vs λx=>.ok x h
 | .assign _=>v1 vs λx=>.ok x h
 | .pick _ _ _=>v3 vs λc a b=>apf c a b h
 | .alloc t=>v0 vs (match XP P t with|some z=>fC t z h|none=>.bad)
 | .box t _=>v1 vs λx=>fO t x h
 | .build t ps=>arn P t (ps.toList.map (·.1)) vs h
 | .buildSlice t len ps=>(match q! len 0 with|true=>aIq P t vs h|false=>afr P t len (ps.toList.map (·.1)) vs h)
 | .load t _=>v1 vs λx=>AV P t x h
 | .store t _ _=>v2 vs λx y=>(match P.info? t with|some ti=>aT ti.size x y h|none=>.bad)
 | .nilCheck _=>v1 vs λx=>aN x h
 | .binOp op t g j _=>v2 vs λx y=>ayd P op t (isC g||isC j) x y h
 | .unOp op _ _=>v1 vs λx=>oUn op x h
 | .convert s d _=>v1 vs λx=>wF P s d x h
 | .makeInterface t _=>v1 vs λx=>ark P t x h
 | .makeFunc fn f c=>ayc fn f.size c.size vs h
 | .makeSlice t _ _=>v2 vs λl c=>ajC P t l c h
 | .slice t _ lo hi mx=>(match vs with
  |x::vs=>ahs lo vs λlo vs=>ahs hi vs λhi vs=>ahs mx vs λmx _=>QL P t x lo hi mx h
  | []=>.bad)
 | .fieldAddr t _ n=>v1 vs λx=>arl P t n x h
 | .field t _ n=>v1 vs λx=>avn P t n x h
 | .indexAddr t _ _=>v2 vs λx i=>YP P t x i h
 | .index t _ _=>v2 vs λx i=>arj P t x i h
 | .extract _ n=>v1 vs λx=>dA n x h
 | .lookup t _ _ ok=>v2 vs λm x=>V7 P t ok m x h
 | .mapUpdate t _ _ _=>v3 vs λm x y=>AU P t m x y h
 | .insert t _ _ _=>v3 vs λm x y=>AU P t m x y h
 | .makeMap _ r=>arf r vs h
 | .call c=>apq P e c vs h
 |_=>.bad
theorem tC{ρ:Operand->Value}{x:Operand}{v:V}{xs:Array Operand}(b:xs= #[x])(a:bU M [v] (xs.toList.map ρ)):Rp M v (ρ x):=by
 subst b;obtain⟨_,_,h,_,e⟩:=a;simp at e;obtain⟨rfl,_⟩:=e;exact h
theorem ops2{ρ:Operand->Value}{x y:Operand}{u v:V}{xs:Array Operand}(c:xs= #[x,y])(b:bU M [u,v] (xs.toList.map ρ)):Rp M u (ρ x)/\Rp M v (ρ y):=by
 subst c;obtain⟨_,_,h,⟨_,_,g,_,a⟩,e⟩:=b;subst a;simp at e;obtain⟨rfl,rfl,_⟩:=e;exact⟨h,g⟩
theorem ops3{ρ:Operand->Value}{x y z:Operand}{u v t:V}{xs:Array Operand}(d:xs= #[x,y,z])(c:bU M [u,v,t] (xs.toList.map ρ)):Rp M u (ρ x)/\Rp M v (ρ y)/\Rp M t (ρ z):=by
 subst d;obtain⟨_,_,h,⟨_,_,g,⟨_,_,k,_,a⟩,b⟩,e⟩:=c;subst a;subst b;simp at e;obtain⟨rfl,rfl,rfl,_⟩:=e;exact⟨h,g,k⟩
theorem aCq{e:FuncId->Option Fun}(n:∀f F,e f=some F->aG P G f F){f:V}{args:List V}{j:Value}{cargs:List Value}(p:Rel G M h w)(o:Rp M f j)(m:bU M args cargs)
  (c:dK e f args h=.ok r h'):Opq P (Post G M h w r h') ((do let d<-Deferred.ofValue j cargs.toArray;invoke d.target d.args:Sem Next).run P w):=by
 unfold dK at c;split at c
 ·rename_i fn a b;obtain⟨k,x,y,i,q,s,rfl⟩:=o.func;split at c
  ·rename_i g;obtain rfl:k=.func g:=i;split at c
   ·rename_i F l;have:=n g F l _ _ _ _ _ _ (x++(cargs++y)) c p (bU.append q (bU.append m s));simpa[Deferred.ofValue,invoke,Array.append_assoc]using this
   ·cases c
  ·cases c
 ·cases c
theorem axz{d:TypeDesc}{sz:Nat}(h0:alP P d=some sz):∀e,d=.pointer e->∃ti,P.info? e=some ti/\ti.size=sz:=by
 intro e a;subst a;simp only[alP]at h0;split at h0
 ·rename_i ti hi;cases h0;exact⟨ti,hi,rfl⟩
 ·cases h0
theorem Opq.pure{c:Value}(a:Rel G M h w)(b:Rp M r c):Opq P (Post G M h w r h) ((pure (.value c):Sem Next).run P w):=⟨M,b,a,.refl a⟩
theorem zip_fst{ρ:Operand->Value}(ps:List (Nat×Operand)){vs:List V}(hl:vs.length=ps.length):
  ((ps.map (·.1)).zip vs).map (·.1)=(ps.map λp=>(p.1,ρ p.2)).map (·.1)/\((ps.map (·.1)).zip vs).map (·.2)=vs:=by
 constructor
 ·rw[List.map_fst_zip (by simp[hl])];simp
 ·rw[List.map_snd_zip (by simp[hl])]
theorem bU.cons_inv{v:V}{vs:List V}{l:List Value}(d:bU M (v::vs) l):∃c cs,l=c::cs/\Rp M v c/\bU M vs cs:=by
 obtain⟨c,cs,a,b,e⟩:=d;exact⟨c,cs,e,a,b⟩
theorem alR{ρ:Operand->Value}{x:Option Operand}{rest:List Value}{vs:List V}{k:Option V->List V->R V}(b:bU M vs ((x.toArray.toList.map ρ)++rest))(e:ahs x vs k=.ok r h'):
  ∃u d,k u d=.ok r h'/\nX M u (x.map ρ)/\bU M d rest:=by
 cases x with
 |none=>exact⟨none,vs,e,trivial,by simpa using b⟩
 |some y=>
  cases vs with
  |nil=>cases e
  |cons v vs=>
   obtain⟨c,cs,a,f,g⟩:=b.cons_inv;simp at a;obtain⟨rfl,rfl⟩:=a;exact⟨some v,vs,e,f,g⟩
theorem auM(w:World)(t el:TypeId)(ti:TypeInfo)(b:P.underlying t=some (.slice el))(a:P.info? el=some ti):
  (K! t 0 #[]).run P w=.ok (.slice (some ⟨w.heap.size,0,none⟩) 0 0) (w.alloc (.cells #[] el)):=by
 simp[K!,run_underlying b,sizeOf,typeInfo,a,Instr.fill,newRow,show(p? 0)= #[] from rfl]
theorem atq{d:TypeDesc}{a:Array Field}(h:structOf d=some a):d=.struct a:=by
 cases d<;>simp[structOf]at h;rw[h]
theorem aEJ{op:BinOp}{t:TypeId}{l m:Operand}{x y:V}{a b:Value}(i:Rel G M h w)(j:Rp M x a)(k:Rp M y b)(e:ayd P op t (isC l||isC m) x y h=.ok r h'):
  Good P G M h w (do eqGuard op t l m a b;binOp op t a b) r h':=by
 unfold ayd at e;split at e
 ·rename_i d c;split at e
  ·rename_i n f;rw[atq f]at c;exact azS c i j k e
  ·split at e
   ·rename_i sz g;exact aIu c (axz g) i j k e
   ·cases e
 ·cases e
theorem ayb{t:TypeId}{ok:Bool}{m x:V}{c f:Value}(k:Rel G M h w)(j:Rp M m c)(n:Rp M x f)(e:V7 P t ok m x h=.ok r h'):Good P G M h w (n! t c f ok) r h':=by
 unfold V7 at e;split at e
 ·rename_i s p l;split at e
  ·rename_i d q g a;split at e
   ·rename_i u b;split at e
    ·rename_i z o;unfold VT at e;split at e
     ·rename_i i;exact azn l g a b o i k j n e
     ·cases e
    ·cases e
   ·cases e
  ·cases e
 ·cases e
theorem aan{t:TypeId}{m x y:V}{a b c:Value}(j:Rel G M h w)(i:Rp M m a)(l:Rp M x b)(n:Rp M y c)(e:AU P t m x y h=.ok r h'):
  ∃w',(z! t a b c).run P w=.ok () w'/\r=V.undef/\Rel G M h' w'/\Ext M h w M h' w':=by
 unfold AU at e;split at e
 ·rename_i p o k;split at e
  ·rename_i d f;split at e
   ·rename_i g;exact aqN k f g j i l n e
   ·cases e
  ·cases e
 ·cases e
set_option maxHeartbeats 1000000 in
theorem I8{e:FuncId->Option Fun}(he:∀f F,e f=some F->aG P G f F){o:Oper}{a:Act}{vs:List V}(I:bU M vs (o.op.operands.toList.map a.eval))(H:Rel G M h w)
  (j:iH P e o.op vs h=.ok r h'):Opq P (Post G M h w r h') ((execOp a.eval o).run P w):=by
 obtain⟨dst,op,type,pos,after,guard⟩:=o;simp only at I j;cases op<;>simp only[iH]at j<;>try (cases j;done)
 case move x=>
  obtain⟨x,rfl,j⟩:=Au j;cases j;exact .pure H (tC rfl I)
 case assign x=>
  obtain⟨x,rfl,j⟩:=Au j;cases j;exact .pure H (tC rfl I)
 case pick c x y=>
  obtain⟨c,x,y,rfl,j⟩:=axg j;obtain⟨K,L,h3⟩:=ops3 rfl I;obtain⟨q,rfl,e1⟩:=an0 j;have hb:=K.bool;simp only[execOp,hb,Go.asBool];cases q<;>cases e1
  ·exact .pure H h3
  ·exact .pure H L
 case alloc t=>
  obtain⟨rfl,j⟩:=aJ6 j;split at j
  ·rename_i z S;obtain⟨it,zv,K,L,h3⟩:=IZ S;exact(aCA K L (h3 M).1 (h3 M).2 H j).opq
  ·cases j
 case box t x=>
  obtain⟨x,rfl,j⟩:=Au j;exact(aIt H (tC rfl I) j).opq
 case load t x=>
  obtain⟨x,rfl,j⟩:=Au j;unfold AV at j;split at j
  ·rename_i d C;split at j
   ·rename_i ha;split at j
    ·rename_i ti B;exact(aBY C (by cases d<;>simp_all[ams]) B H (tC rfl I) j).opq
    ·cases j
   ·rename_i ha;exact(aBZ C (by cases d<;>simp_all[ams]) H (tC rfl I) j).opq
  ·cases j
 case store t x y=>
  obtain⟨x,y,rfl,j⟩:=Ti j;obtain⟨K,L⟩:=ops2 rfl I;split at j
  ·rename_i ti B;obtain⟨w',g1,rfl,g2,g3⟩:=aBy (P:=P) B H K L j;simp only[execOp,d!,g1,c!];exact⟨M,oC M,g2,g3⟩
  ·cases j
 case lookup t m x ok=>
  obtain⟨m,x,rfl,j⟩:=Ti j;obtain⟨K,L⟩:=ops2 rfl I;exact(ayb H K L j).opq
 case mapUpdate t m x y=>
  obtain⟨m,x,y,rfl,j⟩:=axg j;obtain⟨K,L,h3⟩:=ops3 rfl I;obtain⟨w',g1,rfl,g2,g3⟩:=aan (P:=P) H K L h3 j;simp only[execOp,d!,g1,c!];exact⟨M,oC M,g2,g3⟩
 case insert t m x y=>
  obtain⟨m,x,y,rfl,j⟩:=axg j;obtain⟨K,L,h3⟩:=ops3 rfl I;obtain⟨w',g1,rfl,g2,g3⟩:=aan (P:=P) H K L h3 j;simp only[execOp,d!,g1,c!];exact⟨M,oC M,g2,g3⟩
 case makeMap t rs=>
  unfold arf at j;split at j
  ·exact(axP H j).opq
  ·cases j
 case nilCheck x=>
  obtain⟨x,rfl,j⟩:=Au j;obtain⟨rfl,rfl,hh⟩:=atC (P:=P) (w:=w) (tC rfl I) j;rw[hh a.eval _ _ rfl rfl];exact⟨M,tC rfl I,H,.refl H⟩
 case binOp op t xo yo _=>
  obtain⟨x,y,rfl,j⟩:=Ti j;obtain⟨K,L⟩:=ops2 rfl I;exact(aEJ H K L j).opq
 case unOp op _ x=>
  obtain⟨x,rfl,j⟩:=Au j;exact(aJ7 H (tC rfl I) j).opq
 case convert s d x=>
  obtain⟨x,rfl,j⟩:=Au j;unfold wF at j;split at j
  ·rename_i hs C;exact(ayf hs C H (tC rfl I) j).opq
  ·rename_i hs C;exact(aye hs C H (tC rfl I) j).opq
  ·rename_i el hs C;split at j
   ·rename_i aa;exact(atr hs C aa H (tC rfl I) j).opq
   ·cases j
  ·rename_i el hs C;split at j
   ·rename_i aa;exact(atP hs C aa H (tC rfl I) j).opq
   ·cases j
  ·rename_i el ar hs C;split at j
   ·rename_i ao aa;exact(aBV (e! ao) hs C aa H (tC rfl I) j).opq
   ·cases j
  ·rename_i t hs C;replace j:(match P.info? t with|some ti=>(match q! ti.size 0 with|false=>alU x h|true=>.bad)|none=>.bad)=R.ok r h':=j;split at j
   ·rename_i ti B;split at j
    ·rename_i S;exact(aHR hs C B (V! S) H (tC rfl I) j).opq
    ·cases j
   ·cases j
  ·rename_i u hs C;replace j:(match P.info? u with|some _=>V8 P u x h|none=>.bad)=R.ok r h':=j;split at j
   ·rename_i iu ai;exact(aCa hs C ai H (tC rfl I) j).opq
   ·cases j
  ·cases j
 case makeInterface t x=>
  obtain⟨x,rfl,j⟩:=Au j;unfold ark at j;split at j
  ·cases j
  ·rename_i d aj C;exact(aB5 C (λms hm=>aj ms (by rw[hm])) H (tC rfl I) j).opq
  ·cases j
 case makeFunc fn f c=>
  unfold ayc at j;split at j
  ·rename_i hl;have av:=e! hl;have e1:(Op.makeFunc fn f c).operands.toList.map a.eval=f.toList.map a.eval++c.toList.map a.eval:=by simp[w!]
   rw[e1]at I;have g1:=I.take f.size;have g2:=I.drop f.size;rw[List.take_left' (by simp)]at g1;rw[List.drop_left' (by simp)]at g2;have:=(aEx (P:=P) H g1 g2 j).opq;have e2:∀z:Array Operand,(z.toList.map a.eval).toArray=z.map a.eval:=λz=>by apply g!;simp
   rw[e2,e2]at this;exact this
  ·cases j
 case makeSlice t l c=>
  obtain⟨x,y,rfl,j⟩:=Ti j;obtain⟨K,L⟩:=ops2 rfl I;unfold ajC at j;split at j
  ·rename_i el C;split at j
   ·rename_i ti z B S;obtain⟨zv,E⟩:=zC B;obtain⟨it,aD,k1,k2,k3⟩:=IZ S;rw[E.info]at k1;cases k1;rw[E.zero]at k2;cases k2;exact(aqO C E (k3 M).1 H K L j).opq
   ·cases j
  ·cases j
 case slice t x lo hi mx=>
  split at j
  ·rename_i v vs;have e1:(Op.slice t x lo hi mx).operands.toList.map a.eval=a.eval x::((lo.toArray.toList.map a.eval)++((hi.toArray.toList.map a.eval)++((mx.toArray.toList.map a.eval)++ []))):=by
    simp[w!]
   rw[e1]at I;obtain⟨c,cs,U,N,W⟩:=I.cons_inv;cases U;obtain⟨l1,ax,e1,p1,r1⟩:=alR W j;obtain⟨l2,ay,e2,p2,r2⟩:=alR r1 e1;obtain⟨l3,az,e3,p3,r3⟩:=alR r2 e2;clear j e1 e2;have j:=e3;clear e3;unfold QL at j;split at j
   ·rename_i C;cases l3 with
    |some _=>cases j
    |none=>
     cases mx with
     |some _=>exact p3.elim
     |none=>exact(atu C H N p1 p2 j).opq
   ·rename_i el C;split at j
    ·rename_i ti B;exact(ay5 C B H N p1 p2 p3 j).opq
    ·cases j
   ·rename_i n el C;split at j
    ·rename_i ti B;exact(atw C B H N p1 p2 p3 j).opq
    ·cases j
   ·cases j
  ·cases j
 case fieldAddr t x n=>
  obtain⟨x,rfl,j⟩:=Au j;unfold arl at j;split at j
  ·rename_i fs C;split at j
   ·rename_i f hf;split at j
    ·rename_i ti B;split at j
     ·rename_i S;exact(aq5 C hf B (V! S) H (tC rfl I) j).opq
     ·cases j
    ·cases j
   ·cases j
  ·cases j
 case field t x n=>
  obtain⟨x,rfl,j⟩:=Au j;unfold avn at j;split at j
  ·rename_i fs C;split at j
   ·rename_i f hf;split at j
    ·rename_i d ti Z B;exact(aCd C hf (aEd Z B H (tC rfl I) j)).opq
    ·cases j
   ·cases j
  ·cases j
 case indexAddr t x i=>
  obtain⟨x,y,rfl,j⟩:=Ti j;obtain⟨K,L⟩:=ops2 rfl I;unfold YP at j;split at j
  ·rename_i el C;split at j
   ·rename_i ti B;exact(aEs C B H K L j).opq
   ·cases j
  ·rename_i n el C;split at j
   ·rename_i ti B;exact(aEu C B H K L j).opq
   ·cases j
  ·cases j
 case index t x i=>
  obtain⟨x,y,rfl,j⟩:=Ti j;obtain⟨K,L⟩:=ops2 rfl I;unfold arj at j;split at j
  ·rename_i C;exact(azt C H K L j).opq
  ·cases j
 case extract x n=>
  obtain⟨x,rfl,j⟩:=Au j;exact(ax4 H (tC rfl I) j).opq
 case build t ps=>
  have ab:=I.length;have e1:(Op.build t ps).operands.toList.map a.eval=ps.toList.map λp=>a.eval p.2:=by simp[w!]
  rw[e1]at I ab;have hl:vs.length=ps.toList.length:=by simpa using ab.symm
  obtain⟨z1,z2⟩:=zip_fst (ρ:=a.eval) ps.toList hl;have ac:(ps.map λ(i,x)=>(i,a.eval x)).toList=ps.toList.map λp=>(p.1,a.eval p.2):=by simp
  have K:((ps.toList.map (·.1)).zip vs).map (·.1)=(ps.map λ(i,x)=>(i,a.eval x)).toList.map (·.1):=by rw[ac];exact z1
  have L:bU M (((ps.toList.map (·.1)).zip vs).map (·.2)) ((ps.map λ(i,x)=>(i,a.eval x)).toList.map (·.2)):=by
   rw[ac,z2,n?];exact I
  unfold arn at j;split at j
  ·rename_i fs z C S;obtain⟨it,zv,k1,k2,k3⟩:=IZ S;split at j
   ·rename_i pl am;split at j
    ·rename_i qs hq;exact(ars C k1 k2 (.inr ⟨fs,pl,rfl,am,rfl⟩) (k3 M).1 (k3 M).2 hq K L H j).opq
    ·cases j
   ·cases j
  ·rename_i n el z C S;obtain⟨it,zv,k1,k2,k3⟩:=IZ S;split at j
   ·rename_i ie ah;split at j
    ·rename_i qs hq;exact(ars C k1 k2 (.inl ⟨n,el,ie,rfl,ah,rfl⟩) (k3 M).1 (k3 M).2 hq K L H j).opq
    ·cases j
   ·cases j
  ·cases j
 case buildSlice t len ps=>
  have ab:=I.length;have e1:(Op.buildSlice t len ps).operands.toList.map a.eval=ps.toList.map λp=>a.eval p.2:=by simp[w!]
  rw[e1]at I ab;have hl:vs.length=ps.toList.length:=by simpa using ab.symm
  obtain⟨z1,z2⟩:=zip_fst (ρ:=a.eval) ps.toList hl;have ac:(ps.map λ(i,x)=>(i,a.eval x)).toList=ps.toList.map λp=>(p.1,a.eval p.2):=by simp
  have K:((ps.toList.map (·.1)).zip vs).map (·.1)=(ps.map λ(i,x)=>(i,a.eval x)).toList.map (·.1):=by rw[ac];exact z1
  have L:bU M (((ps.toList.map (·.1)).zip vs).map (·.2)) ((ps.map λ(i,x)=>(i,a.eval x)).toList.map (·.2)):=by
   rw[ac,z2,n?];exact I
  split at j
  ·rename_i S;have S:=e! S;subst S;unfold aIq at j;split at j
   ·have an:ps= #[]:=by
     cases ps with
     |mk l=>cases l with
      |nil=>rfl
      |cons x l=>simp at hl
    subst an;split at j
    ·rename_i el C;split at j
     ·rename_i ti B;cases j;have:=H.row (w':=w.alloc (.cells #[] el)) [] #[] el (0,0) rfl (by simp) (by simp) true (λ_=>rfl) rfl rfl rfl rfl;have gd:Good P G M h w (K! t 0 #[]) (.slice h.next 0 0 (.kn 0)) (h.new (.cells (.rw el true) [])):=⟨.slice (some ⟨w.heap.size,0,none⟩) 0 0,w.alloc (.cells #[] el),_,auM w t el ti C B,iY (o:=0) (n:=0) (k:=.kn 0) (m:=0) (M.eF h.next ⟨w.heap.size,0,(#[]:Array Value).size⟩) ⟨rfl,Nat.le_refl 0⟩,this.1,this.2⟩
      have gq:=gd.opq;rw[show(#[]:Array (Nat×Value))=(#[]:Array (Nat×Operand)).map (λx=>(x.1,a.eval x.2)) from by simp]at gq;exact gq
     ·cases j
    ·cases j
   ·cases j
  unfold afr at j;split at j
  ·rename_i el C;split at j
   ·rename_i ti B;obtain⟨zv,E⟩:=zC B;split at j
    ·rename_i z S;rw[E.zero]at S;cases S;split at j
     ·rename_i zs qs ad hq ak al;exact(aoJ C E (by simpa[c?]using ak) (p! al) (zD ad M).1 hq K L H j).opq
     ·cases j
    ·cases j
   ·cases j
  ·cases j
 case call c=>
  obtain⟨ae,args,D⟩:=c;unfold apq at j;cases ae with
  |invoke rc m=>cases j
  |value f=>
   simp only at j;split at j
   ·rename_i fv aq;have e1:(Op.call ⟨.value f,args,D⟩).operands.toList.map a.eval=a.eval f::args.toList.map a.eval:=by simp[w!,Call.operands]
    rw[e1]at I;obtain⟨c,cs,U,N,W⟩:=I.cons_inv;cases U;have:=aCq he H N W j;have e2:(args.toList.map a.eval).toArray=args.map a.eval:=by apply g!;simp
    rw[e2]at this;simpa[execOp,resolve]using this
   ·cases j
  |builtin b=>
   simp only at j;have e1:(Op.call ⟨.builtin b,args,D⟩).operands.toList.map a.eval=args.toList.map a.eval:=by simp[w!,Call.operands]
   rw[e1]at I;have af:∀l:List Operand,args.toList=l->args=l.toArray:=λl hl=>by apply g!;simpa using hl
   have X:∀l:List TypeId,D.toList=l->D=l.toArray:=λl hl=>by apply g!;simpa using hl
   unfold Yu at j;split at j
   ·rename_i t x O;have Q:=X _ O;subst Q;obtain⟨c,cs,U,N,W⟩:=I.cons_inv;have J:cs= []:=W;subst J;have e2:args.map a.eval= #[c]:=by apply g!;simpa using U
    have fin:Good P G M h w (Builtin.len_ #[t] type #[c]) r h'->Opq P (Post G M h w r h') ((execOp a.eval ⟨dst,.call ⟨.builtin .len,args, #[t]⟩,type,pos,after,guard⟩).run P w):=by
     intro g;have:=g.opq;simpa[execOp,resolve,invoke,builtin,e2]using this
    split at j
    ·rename_i n el C;exact fin (azp C H j)
    ·rename_i d aw C;exact fin (aIi C H N j)
    ·cases j
   ·rename_i t t2 s x O;have Q:=X _ O;subst Q;obtain⟨c,cs,U,N,W⟩:=I.cons_inv;obtain⟨c2,Y,p1,p2,p3⟩:=W.cons_inv;have J:Y= []:=p3;subst J;subst p1;have e2:args.map a.eval= #[c,c2]:=by apply g!;simpa using U
    have fin:Good P G M h w (x! #[t,t2] type #[c,c2]) r h'->Opq P (Post G M h w r h') ((execOp a.eval ⟨dst,.call ⟨.builtin .append,args, #[t,t2]⟩,type,pos,after,guard⟩).run P w):=by
     intro g;have:=g.opq;simpa[execOp,resolve,invoke,builtin,e2]using this
    split at j
    ·rename_i el au C Z;split at j
     ·rename_i ti B;obtain⟨zv,E⟩:=zC B;exact fin (an1 C Z (by simp) E H N p2 j)
     ·cases j
    ·rename_i el C Z;split at j
     ·rename_i ti B;obtain⟨zv,E⟩:=zC B;exact fin (an1 C Z (by simp) E H N p2 j)
     ·cases j
    ·rename_i el kd C Z;split at j
     ·rename_i ti B;obtain⟨zv,E⟩:=zC B;split at j
      ·rename_i z S;split at j
       ·rename_i zs ad;have:zv=z:=by have:=E.zero;rw[S]at this;exact(D! this).symm
        subst this;exact fin (ayo C Z E (zD ad M).1 H N p2 j)
       ·cases j
      ·cases j
     ·cases j
    ·cases j
   ·rename_i t x O;have Q:=X _ O;subst Q;obtain⟨c,cs,U,N,W⟩:=I.cons_inv;have J:cs= []:=W;subst J;have e2:args.map a.eval= #[c]:=by apply g!;simpa using U
    split at j
    ·rename_i el C;have:=(azL (P:=P) (ty:=type) C H N j).opq;simpa[execOp,resolve,invoke,builtin,e2]using this
    ·cases j
   ·rename_i t t2 x y O;have Q:=X _ O;subst Q;obtain⟨c,cs,U,N,W⟩:=I.cons_inv;obtain⟨c2,Y,p1,p2,p3⟩:=W.cons_inv;have J:Y= []:=p3;subst J;subst p1;have e2:args.map a.eval= #[c,c2]:=by apply g!;simpa using U
    split at j
    ·rename_i el C;split at j
     ·rename_i ti B;have:=(aEK (P:=P) (t2:=t2) (ty:=type) C B H N p2 j).opq;simpa[execOp,resolve,invoke,builtin,e2]using this
     ·cases j
    ·cases j
   ·rename_i x;obtain⟨c,cs,U,N,W⟩:=I.cons_inv;have J:cs= []:=W;subst J;have e2:args.map a.eval= #[c]:=by apply g!;simpa using U
    have:=(apQ (P:=P) (ts:=D) (ty:=type) H N j).opq;simpa[execOp,resolve,invoke,builtin,e2]using this
   ·rename_i pt it x y O;have Q:=X _ O;subst Q;obtain⟨c,cs,U,N,W⟩:=I.cons_inv;obtain⟨c2,Y,p1,p2,p3⟩:=W.cons_inv;have J:Y= []:=p3;subst J;subst p1;have e2:args.map a.eval= #[c,c2]:=by apply g!;simpa using U
    split at j
    ·rename_i u C;split at j
     ·rename_i ag;have:=(apy (P:=P) (it:=it) (ty:=type) C (e! ag) H N p2 j).opq;simpa[execOp,resolve,invoke,builtin,e2]using this
     ·cases j
    ·cases j
   ·rename_i x y;obtain⟨c,cs,U,N,W⟩:=I.cons_inv;obtain⟨c2,Y,p1,p2,p3⟩:=W.cons_inv;have J:Y= []:=p3;subst J;subst p1;have e2:args.map a.eval= #[c,c2]:=by apply g!;simpa using U
    have:=(aIe (P:=P) (at_:=D) (ty:=type) H N p2 j).opq;simpa[execOp,resolve,invoke,builtin,e2]using this
   ·rename_i x y;obtain⟨c,cs,U,N,W⟩:=I.cons_inv;obtain⟨c2,Y,p1,p2,p3⟩:=W.cons_inv;have J:Y= []:=p3;subst J;subst p1;have e2:args.map a.eval= #[c,c2]:=by apply g!;simpa using U
    have:=(aIf (P:=P) (at_:=D) (ty:=type) H N p2 j).opq;simpa[execOp,resolve,invoke,builtin,e2]using this
   ·rename_i t x O;have Q:=X _ O;subst Q;obtain⟨c,cs,U,N,W⟩:=I.cons_inv;have J:cs= []:=W;subst J;have e2:args.map a.eval= #[c]:=by apply g!;simpa using U
    split at j
    ·rename_i el C;split at j
     ·rename_i ti B;split at j
      ·rename_i z S;split at j
       ·rename_i zs ad;obtain⟨zv,E⟩:=zC B;have ap:zv=z:=by have:=E.zero;rw[S]at this;exact(D! this).symm
        subst ap;have:=(aCp (P:=P) (ty:=type) C E (zD ad M).1 H N j).opq;simpa[execOp,resolve,invoke,builtin,e2]using this
       ·cases j
      ·cases j
     ·cases j
    ·cases j
   ·cases j
end
end Go.Vm
