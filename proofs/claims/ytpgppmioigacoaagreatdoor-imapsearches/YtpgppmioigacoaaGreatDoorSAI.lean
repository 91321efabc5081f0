/- Lemmas. No conditions. -/
import Derived.Test.YtpgppmioigacoaaGreatDoorSAH
import Derived.KernelRfl
set_option linter.all false
open Bool renaming and_eq_true→a!,not_false→S!,not_true→T!
open List renaming getElem?_eq_getElem→b!,length_map→e!,getElem?_map→j!,map_congr_left→k!,getElem?_eq_some_iff→l!,mem_of_getElem?→n!,length_cons→p!,map_map→r!,getElem?_append_left→w!,length_eq_zero_iff→x!,getElem?_cons_succ→y!,drop_zero→z!,mem_cons→B!,length_append→C!,length_nil→D!,getElem?_append_right→E!,getElem?_set_ne→I!,pairwise_map→L!,length_drop→N!,drop_length→O!,length_set→P!
open Nat renaming ble_eq_true_of_le→c!,blt_eq→d!,ble→g!,lt_or_ge→h!,blt→i!,zero_add→o!,beq→q!,beq_refl→t!,eq_of_beq_eq_true→u!,le_refl→v!,zero_le→A!,add_sub_cancel_left→F!,sub_self→G!,le_of_ble_eq_true→H!,mul_le_mul_right→J!,lt_of_lt_of_le→K!,lt_trichotomy→M!,zero_ne_one→Q!,one_ne_zero→R!,sub_mul→U!,add_mul→V!
noncomputable section
open Go Go.Vm
namespace Go.Vm
section
variable{h h':Hp}{sz n bt:Nat}{v x:V}{cs:List V}{c:EqC}{el:TypeId}
def aes(a b:List Nat):kF a b=decide (a=b):=by
 induction a generalizing b with
 |nil=>cases b<;>simp[kF]
 |cons x a e=>
  cases b with
  |nil=>simp[kF]
  |cons y b=>
   simp only[kF];by_cases d:x=y
   ·subst d;rw[t!,e];simp
   ·have:q! x y=false:=by cases hb:q! x y;rfl;exact absurd (u! hb) d
    rw[this];simp[d]
def aeN(a b:List Nat):aJ .eql c (.str a) (.str b) h=.ok (.bool (decide (a=b))) h:=by
 show fH (kF a b) h=_;rw[fU,aes]
def aeM(a b:List Nat):aJ .neq c (.str a) (.str b) h=.ok (.bool (decide (a≠b))) h:=by
 show fH (not (kF a b)) h=_;rw[fU,aes];simp
def dX{a b:List Nat}(hl:a.length+b.length<4611686018427387904):aJ .add c (.str a) (.str b) h=.ok (.str (a++b)) h:=by
 show(match i! (a.length+b.length) 4611686018427387904 with|true=>R.ok (V.str (a++b)) h|false=>.bad)=_;rw[show i! (a.length+b.length) 4611686018427387904=true by rw[d!];exact hl]
def aeK(s:List Nat):aZ 1 (.str s) h=.ok (.int .i64 (s.length:Int)) h:=by
 show R.ok (V.int .i64 (.ofNat (aGy s))) h=_;rw[azH];rfl
def Z9{s:List Nat}{m a:Nat}{k:IntKind}(d:s[m]?=some a):mF (.str s) (.int k (m:Int)) h=.ok (.int .u8 (a:Int)) h:=by
 show(match aGo m s with|some b=>R.ok (V.int .u8 (.ofNat b)) h|none=>.bad)=_;rw[azA,d];rfl
def bys(s:List Nat):List V:=s.map λb:Nat=>V.int .u8 (b:Int)
def Dj(s:List Nat):(bys s).length=s.length:=by simp[bys]
def aaD(s t:List Nat):bys (s++t)=bys s++bys t:=by simp[bys]
def ay9(s:List Nat):u8s s=bys s:=by simp[u8s,bys]
def aaf:∀{s:List Nat},(∀b∈s,b<256)->tq (bys s)=some s
 | [],_=>rfl
 |b::s,a=>by
  show(match i! b 256,tq (bys s) with|true,some r=>some (b::r)|_,_=>none)=_;rw[show i! b 256=true by rw[d!];exact a b (by simp),aaf λb hb=>a b (by simp[hb])]
def auS{s:List Nat}(hl:s.length<4611686018427387904):FX (.str s) h=.ok (.slice h.next 0 s.length (.un 1)) (h.new (.bytes (bys s))):=by
 show(match i! s.length 4611686018427387904 with|true=>R.ok (V.slice h.next 0 s.length (.un 1)) (h.new (.bytes (u8s s)))|false=>.bad)=_;rw[show i! s.length 4611686018427387904=true by rw[d!];exact hl,ay9]
structure Ch (S:Pos->Prop) (h h':Hp):Prop where
 next:h.next.nat<=h'.next.nat
 get:∀j:Pos,j.nat<h.next.nat->¬S j->h'.get j=h.get j
variable{S S':Pos->Prop}{g:Hp}
def Ch.refl(S:Pos->Prop)(h:Hp):Ch S h h:=⟨v! _,λ_ _ _=>rfl⟩
def Ch.trans(x:Ch S h g)(y:Ch S' g h')(a:∀j:Pos,j.nat<h.next.nat->S' j->S j):Ch S h h':=
 ⟨Nat.le_trans x.next y.next,λj hj hn=>(y.get j (K! hj x.next) λq=>hn (a j hj q)).trans (x.get j hj hn)⟩
def Ch.mono(x:Ch S h h')(a:∀j:Pos,j.nat<h.next.nat->S j->S' j):Ch S' h h':=⟨x.next,λj hj hn=>x.get j hj λq=>hn (a j hj q)⟩
def Ch.new(S:Pos->Prop)(h:Hp)(o:Ob):Ch S h (h.new o):=⟨by rw[bG];omega,λj hj _=>new_ne h (by omega) o⟩
def Ch.put(h:Hp){i:Pos}(o:Option Ob)(hi:S i):Ch S h (h.put i o):=⟨v! _,λj hj hn=>Uf h (λe=>hn (by rw[show j=i from Pos.zo e];exact hi)) o⟩
def Ch.aK(S:Pos->Prop)(n:Nat)(h:Hp):Ch S h (aK n h):=⟨by rw[Dk];omega,λ_ _ _=>rfl⟩
def Sl.fF{b:Nat}(s:Sl b h sz v n cs){i:Pos}(hi:bV v=some i):i.nat<b:=by
 rcases s.is with⟨_,rfl|rfl⟩|⟨i',o,cp,wr,all,rfl,a,_⟩
 ·cases hi
 ·cases hi
 ·cases hi;exact a
def Sl.ch{b:Nat}(s:Sl b h sz v n cs)(x:Ch S h h')(hb:b<=h.next.nat)(e:∀i,bV v=some i->¬S i):Sl b h' sz v n cs:=⟨s.len,by
 rcases s.is with h0|⟨i,o,cp,wr,all,rfl,hi,d,a⟩
 ·exact .inl h0
 ·exact .inr ⟨i,o,cp,wr,all,rfl,hi,by rw[x.get i (by omega) (e i rfl)];exact d,a⟩⟩
def Ow.fF{b:Nat}(s:Ow b h el sz v n cs){i:Pos}(hi:bV v=some i):b<=i.nat/\i.nat<h.next.nat:=by
 rcases s.is with⟨_,rfl⟩|⟨i',rfl,hb,a,_,_⟩
 ·cases hi
 ·cases hi;exact⟨hb,a⟩
def Ow.ch{b:Nat}(s:Ow b h el sz v n cs)(x:Ch S h h')(d:∀i,bV v=some i->¬S i):Ow b h' el sz v n cs:=⟨s.len,by
 rcases s.is with h0|⟨i,rfl,hb,hi,f1,a⟩
 ·exact .inl h0
 ·exact .inr ⟨i,rfl,hb,K! hi x.next,f1,by rw[x.get i hi (d i rfl)];exact a⟩⟩
def Ow.cell{b:Nat}(s:Ow b h el sz v n cs):v.cells= [v]/\iq v=true:=by
 rcases s.is with⟨_,rfl⟩|⟨i,rfl,_⟩<;>exact⟨rfl,rfl⟩
def Sl.cell{b:Nat}(s:Sl b h sz v n cs):v.cells= [v]/\iq v=true:=by
 rcases s.is with⟨_,rfl|rfl⟩|⟨i,o,cp,wr,all,rfl,_⟩<;>exact⟨rfl,rfl⟩
def aOi{b m:Nat}{new:List V}(s:Ow 0 h el sz v n cs)(t:Sl b h sz x m new)(l:0<m)(a:(n+m)*bt<=140737488355328):
  ∃v' h',bZ el sz bt v x h=.ok v' h'/\v'=.slice h.next 0 (n+m) (.un sz)/\h'.next=h.next.succ/\Ow 0 h' el sz v' (n+m) (cs++new)/\Ch (λj=>bV v=some j) h h':=by
 have hl:(cs++new).length=(n+m)*sz:=by rw[C!,s.len,t.len,V!]
 unfold bZ;rw[t.src];cases m with
 |zero=>omega
 |succ m=>
  simp only[];rcases s.is with⟨rfl,rfl⟩|⟨i,rfl,-,hi,f1,k⟩
  ·have f:cs= []:=x!.1 (by rw[s.len];simp);subst f;simp only[];rw[qC (by rw[o!]at a;exact a)];refine⟨_,_,rfl,by rw[o!],rfl,⟨hl,.inr ⟨h.next,by rw[o!],A! _,by rw[bG];omega,false,dU _ _⟩⟩,Ch.new _ _ _⟩
  ·simp only[];rw[dM (wr:=.rw el f1) (all:=cs) (by rw[k];rfl)];have d:gJ (n*sz) (fG 0 cs)=some cs:=by rw[jO,z!,<-s.len,aen]
   have e:fG (n*sz) (fG 0 cs)= []:=by rw[jO,jO,z!,<-s.len,O!]
   simp only[dF,d,e,t!,qC a];refine⟨_,_,rfl,rfl,rfl,⟨hl,.inr ⟨h.next,rfl,A! _,by rw[bG,jJ];omega,false,dU (h.put i none) _⟩⟩,(Ch.put (S:=λj=>bV (.slice i 0 n (.un sz))=some j) h none rfl).trans (Ch.new (λ_=>False) _ _) λ_ _ q=>q.elim⟩
def az7{new:List V}(s:Ow 0 h el sz v n cs)(a:new.length=sz)(i:(n+1)*bt<=140737488355328):
  ∃v' h',bZ el sz bt v (.slice h.next 0 1 (.kn 1)) (h.new (.cells (.rw el true) new))=.ok v' h'/\v'=.slice h.next.succ 0 (n+1) (.un sz)/\Ow 0 h' el sz v' (n+1) (cs++new)/\Ch (λj=>bV v=some j) h h'/\h'.next.nat=h.next.nat+2:=by
 have b:=Ch.new (λj=>bV v=some j) h (.cells (.rw el true) new);have l:Ow 0 (h.new (.cells (.rw el true) new)) el sz v n cs:=s.ch (Ch.new (λ_=>False) h _) λ_ _ q=>q;have m:Sl (h.next.nat+1) (h.new (.cells (.rw el true) new)) sz (.slice h.next 0 1 (.kn 1)) 1 new:=⟨by rw[a];simp,.inr ⟨h.next,0,_,.rw el true,new,rfl,by omega,by rw[dU];rfl,λk _=>by rw[o!]⟩⟩
 obtain⟨v',h',e,e2,f,o,d⟩:=aOi (bt:=bt) l m (by omega) i;exact⟨v',h',e,e2,o,b.trans d λ_ _ q=>q,by rw[f,aGq,Pos.fA,Pos.fA]⟩
def abS(i:Pos)(q:Nat):aS (.ptr i q) h=.ok (.ptr i q) h:=(rfl)
def auB(h:Hp)(o:Ob):Hp.put (aK 1 h) h.next (some o)=h.new o:=(rfl)
def D8{i:Pos}{wr:Wr}{l:List V}(a:h.get i=some (.cells wr l))(q:Nat):aG (.ptr i q) h=(match l[q]? with|some v=>R.ok v h|none=>.bad):=by
 show dR h i (λ_ cs=>match LK q cs with|some v=>R.ok v h|none=>.bad)=_;rw[dM (wr:=wr) (all:=l) (by rw[a];rfl),oz]
def Ug{y:V}:∀{q:Nat} {l:List V},q<l.length->jK q [y] l=some (l.set q y)
 |0,[],h=>absurd h (by simp)
 |0,a::t,_=>rfl
 |q+1,[],h=>absurd h (by simp)
 |q+1,a::t,h=>by
  show Option.casesOn (motive:=λ_=>Option (List V)) (jK q [y] t) none (λr=>some (a::r))=_;rw[Ug (q:=q) (l:=t) (by simpa using h)];rfl
def CV{i:Pos}{t:TypeId}{f:Bool}{l:List V}(b:h.get i=some (.cells (.rw t f) l)){sz q:Nat}{y:V}(hn:iq y=true)(hl:q! y.cells.length sz=true):
  aV sz (.ptr i q) y h=(match jK q y.cells l with|some a=>.ok V.undef (h.put i (some (.cells (.rw t f) a)))|none=>.bad):=by
 unfold aV;show dR h i _=_;rw[dM (wr:=.rw t f) (all:=l) (by rw[b];rfl),hn,hl];rfl
def TY{i:Pos}{t:TypeId}{f:Bool}{l:List V}(b:h.get i=some (.cells (.rw t f) l)){q:Nat}{y:V}(a:y.cells= [y]/\iq y=true)(d:q<l.length):aV 1 (.ptr i q) y h=.ok V.undef (h.put i (some (.cells (.rw t f) (l.set q y)))):=by
 rw[CV b a.2 (by rw[a.1];rfl),a.1];rw[Ug d]
end
section
variable{h h':Hp}{sz n b:Nat}{v:V}{cs:List V}
def zO(sz:Nat)(v:V):Prop:=∀i o n c,v=.slice i o n c->(match c with| .kn k=>n<=k| .un u=>u=sz)
def aGr{sz o l m k:Nat}(hl:l<=k)(hk:k<=m):moved sz o l m=o+l*sz\/(moved sz o l m=o/\k=l):=by
 unfold moved;cases hb:q! m l with
 |true=>exact .inr ⟨rfl,by have:=u! hb;omega⟩
 |false=>exact .inl rfl
def Sl.cut(s:Sl b h sz v n cs)(G:zO sz v)(H:0<sz){lo hi:Nat}(y:lo<=hi)(E:hi<=n)(D:v≠ .aQ/\v≠ .emp):
  ∃v',(∀h',al4 sz v (some (.int .i64 (lo:Int))) (some (.int .i64 (hi:Int))) none h'=.ok v' h')/\Sl b h sz v' (hi - lo) ((cs.drop (lo*sz)).take ((hi - lo)*sz))/\zO sz v'/\∀i,bV v'=some i->bV v=some i:=by
 have hl:=s.len;have a:((cs.drop (lo*sz)).take ((hi - lo)*sz)).length=(hi - lo)*sz:=by
  rw[List.length_take,N!,hl,<-U!];exact Nat.min_eq_left (J! _ (by omega))
 have d:∀(all:List V) (o:Nat),(∀k,k<n*sz->all[o+k]?=cs[k]?)->∀k,k<(hi - lo)*sz->all[o+lo*sz+k]?=((cs.drop (lo*sz)).take ((hi - lo)*sz))[k]?:=λall o r k hk=>by
  rw[List.getElem?_take,if_pos hk,List.getElem?_drop,Nat.add_assoc];apply r;have:lo*sz+(hi - lo)*sz<=n*sz:=by rw[<-V!];exact J! _ (by omega)
  omega
 rcases s.is with⟨_,h0|h0⟩|⟨i,o,c,wr,all,rfl,g,z,r⟩
 ·exact absurd h0 D.1
 ·exact absurd h0 D.2
 ·have f:=G i o n c rfl;cases c with
  |kn k=>
   have hk:n<=k:=f;have e1:g! k k=true:=c! (v! _);have e2:g! hi k=true:=c! (by omega);have t:g! lo hi=true:=c! y;refine⟨.slice i (moved sz o lo k) (hi - lo) (.kn (k - lo)),λh'=>?_,⟨a,?_⟩,λi' o' C w e=>by cases e;show hi - lo<=k - lo;omega,λj hj=>hj⟩
   ·show(match g! k k,g! hi k,g! lo hi with
     |true,true,true=>eG (moved sz o lo k) λq=>eG (hi - lo) λn=>R.ok (V.slice i q n (.kn (k - lo))) h'
     |_,_,_=>.bad)=_
    rw[e1,e2,t];simp only[dF]
   ·refine .inr ⟨i,_,_,wr,all,rfl,g,z,λq p=>?_⟩;rcases aGr (sz:=sz) (o:=o) (m:=k) y (by omega) with e|⟨_,e⟩
    ·rw[e];exact d all o r q p
    ·rw[e,G!,Nat.zero_mul]at p;omega
  |un u=>
   have I:u=sz:=f;subst I;have e2:g! hi n=true:=c! E;have t:g! lo hi=true:=c! y;cases lo with
   |zero=>
    refine⟨.slice i o hi (.un u),λh'=>?_,⟨a,.inr ⟨i,o,.un u,wr,all,rfl,g,z,λq p=>?_⟩⟩,λi' o' C w e=>(by cases e;rfl),λj hj=>hj⟩
    ·show(match g! hi n,g! 0 hi,q! u u with
      |true,true,true=>R.ok (V.slice i o hi (.un u)) h'
      |_,_,_=>R.bad)=_
     rw[e2,t,t!]
    ·have:=d all o r q p;rw[show o+0*u+q=o+q by omega]at this;exact this
   |succ l=>
    have es:∀h',al4 u (.slice i o n (.un u)) (some (.int .i64 ((l+1:Nat):Int))) (some (.int .i64 (hi:Int))) none h'=(match i! (l+1) n with
      |true=>eG (o+(l+1)*u) λq=>eG (hi - (l+1)) λn=>R.ok (V.slice i q n (.un u)) h'
      |false=>.ok .emp h'):=λh'=>by
     show(match g! hi n,g! (l+1) hi,q! u u with
      |true,true,true=>(match i! (l+1) n with
       |true=>eG (o+(l+1)*u) λq=>eG (hi - (l+1)) λn=>R.ok (V.slice i q n (.un u)) h'
       |false=>.ok .emp h')
      |_,_,_=>R.bad)=_
     rw[e2,t,t!]
    by_cases B:l+1<n
    ·have x:i! (l+1) n=true:=by rw[d!];exact B
     refine⟨.slice i (o+(l+1)*u) (hi - (l+1)) (.un u),λh'=>by rw[es];simp only[x,dF],⟨a,.inr ⟨i,_,_,wr,all,rfl,g,z,λq p=>d all o r q p⟩⟩,λi' o' C w e=>(by cases e;rfl),λj hj=>hj⟩
    ·have x:i! (l+1) n=false:=by
      cases hb:i! (l+1) n with
      |false=>rfl
      |true=>rw[d!]at hb;omega
     have J:hi - (l+1)=0:=by omega
     exact⟨.emp,λh'=>by rw[es];simp only[x],⟨a,.inl ⟨J,.inr rfl⟩⟩,λi' o' C w e=>(by cases e),λj hj=>(by cases hj)⟩
def Sl.from(s:Sl b h sz v n cs)(j:zO sz v)(g:0<sz){lo:Nat}(m:lo<=n):
  ∃v',(∀h',eP sz v (some (.int .i64 (lo:Int))) none none h'=.ok v' h')/\Sl b h sz v' (n - lo) (cs.drop (lo*sz))/\zO sz v'/\∀i,bV v'=some i->bV v=some i:=by
 by_cases a:v=.aQ\/v=.emp
 ·have hn:n=0:=by
   rcases s.is with⟨h0,_⟩|⟨i,o,c,wr,all,e,_⟩
   ·exact h0
   ·rcases a with a|a<;>rw[a]at e<;>cases e
  subst hn;have f:lo=0:=by omega
  subst f;have d:cs= []:=x!.1 (by rw[s.len];simp);subst d;exact⟨v,λh'=>by rcases a with rfl|rfl<;>rfl,by simpa using s,j,λ_ hi=>hi⟩
 ·obtain⟨v',e1,e2,k,l⟩:=s.cut j g (hi:=n) m (v! _) ⟨λq=>a (.inl q),λq=>a (.inr q)⟩;refine⟨v',λh'=>?_,?_,k,l⟩
  ·rw[<-e1 h'];rcases s.is with⟨_,h0⟩|⟨i,o,c,wr,all,rfl,_⟩
   ·exact absurd h0 a
   ·rfl
  ·have hl:(cs.drop (lo*sz)).length<=(n - lo)*sz:=by rw[N!,s.len,<-U!];exact v! _
   rw[List.take_of_length_le hl]at e2;exact e2
end
section
variable{h:Hp}{el:TypeId}{bt:Nat}{c:EqC}
def wrap_u8{n:Nat}(hn:n<256):IntKind.u8.wrap (n:Int)=(n:Int):=by
 simp[IntKind.wrap,IntKind.signed,IntKind.bits];omega
def aD2{a b:Nat}(hn:a+b<256):aJ .add c (.int .u8 (a:Int)) (.int .u8 (b:Int)) h=.ok (.int .u8 ((a+b:Nat):Int)) h:=by
 show iH .u8 (xJ .u8 ((a:Int)+(b:Int))) h=_;rw[A7,show(a:Int)+(b:Int)=((a+b:Nat):Int) by omega,wrap_u8 hn,gK]
def aOj{p:Pos}{n k:Nat}{t:TypeId}{f:Bool}{pre post:List V}{x y:V}(d:h.get p=some (.cells (.rw t f) (pre++x::post)))(hk:pre.length=k)(hn:k<n)(e:p.nat<h.next.nat):
  bZ el 1 bt (.slice p 0 k (.kn n)) (.slice h.next 0 1 (.kn 1)) (h.new (.cells (.rw el true) [y]))=.ok (.slice p 0 (k+1) (.kn n)) ((h.new (.cells (.rw el true) [y])).put p (some (.cells (.rw t f) (pre++y::post)))):=by
 have b:(h.new (.cells (.rw el true) [y])).get p=some (.cells (.rw t f) (pre++x::post)):=by rw[new_ne h (by omega)];exact d
 unfold bZ;have a:∀f:Nat->List V->R V,qK 1 (.slice h.next 0 1 (.kn 1)) (h.new (.cells (.rw el true) [y])) f=f 1 [y]:=λf=>by
  show dR _ _ _=_;rw[dM (wr:=.rw el true) (all:= [y]) (by rw[dU];rfl)];rfl
 rw[a];simp only[];rw[dM (wr:=.rw t f) (all:=pre++x::post) (by rw[b];rfl)];simp only[dF,o!,Nat.mul_one];rw[c! (show k+1<=n by omega),Ug (by simp;omega)];simp only[];rw[show(pre++x::post).set k y=pre++y::post by rw[<-hk];simp]
def aDK(n:Nat)(z:V):(times n [z]).length=n:=by
 induction n with
 |zero=>rfl
 |succ n a=>
  show(z::times n [z]).length=n+1;simp[a]
def auV{z:V}{n:Nat}(hn:n*bt<=140737488355328):xR el bt [z] (.int .i64 0) (.int .i64 (n:Int)) h=.ok (.slice h.next 0 0 (.kn n)) (h.new (.cells (.rw el true) (times n [z]))):=by
 show(match g! 0 n,g! (Nat.mul n bt) 140737488355328 with
  |true,true=>R.ok (V.slice h.next 0 0 (.kn n)) (h.new (.cells (.rw el true) (times n [z])))
  |_,_=>.bad)=_
 rw[c! (A! n),show g! (Nat.mul n bt) 140737488355328=true from c! hn]
def PX(c:Nat):Nat:=if 65<=c/\c<=90 then c+32 else c
def foldM(s:List Nat):List Nat:=s.map PX
def aI5{c:Nat}(h:c<256):PX c<256:=by unfold PX;split<;>omega
def aGN{s:List Nat}(h:∀c∈s,c<256):∀c∈foldM s,c<256:=λc a=>by
 obtain⟨d,hd,rfl⟩:=List.mem_map.1 a;exact aI5 (h d hd)
def ayg{p:Pos}{n:Nat}{t:TypeId}{f:Bool}{s:List Nat}{rest:List V}(a:h.get p=some (.cells (.rw t f) (bys s++rest)))(d:∀b∈s,b<256):Bl (.slice p 0 s.length (.kn n)) h=.ok (.str s) h:=by
 show dR h p (λ_ cs=>(match gJ s.length (fG 0 cs) with
  |some l=>(match tq l with|some s=>R.ok (V.str s) h|none=>.bad)
  |none=>.bad))=_
 rw[dM (wr:=.rw t f) (all:=bys s++rest) (by rw[a];rfl),Bc (cs:=bys s) (λk hk=>by rw[o!,w! (by rw[Dj];exact hk)]) (Dj s)];simp only[];rw[aaf d]
end
section
variable{h h':Hp}{el:TypeId}{bt:Nat}{c:EqC}{P:Program}
def fM(n:Nat)(i:Pos)(q:Nat):aJ .eql (.ptr n) (.ptr i q) .cZ h=.ok (.bool false) h:=(rfl)
def ax2(n:Nat)(i:Pos)(q:Nat):aJ .neq (.ptr n) (.ptr i q) .cZ h=.ok (.bool true) h:=(rfl)
def aid(n:Nat):aJ .eql (.ptr n) .cZ .cZ h=.ok (.bool true) h:=(rfl)
def auG{n:Nat}(hn:q! n 0=false)(i:Pos)(q:Nat):aJ .neq (.ptr n) (.ptr i q) (.ptr i q) h=.ok (.bool false) h:=by
 show(match q! n 0,i.eq i with|false,true=>fH (not (q! q q)) h|_,_=>.bad)=_;rw[hn,Pos.eq_self,t!];rfl
def aI1{i:Pos}{wr:Wr}{l:List V}{q:Nat}{v:V}(a:h.get i=some (.cells wr l))(b:l[q]?=some v):ao9 (.ptr i q) h=.ok (.ptr i q) h:=by
 show dR h i (λ_ cs=>(match LK q cs with|some _=>R.ok (V.ptr i q) h|none=>.bad))=_;rw[dM (wr:=wr) (all:=l) (by rw[a];rfl),oz,b]
def aEq{i:Pos}{t u:TypeId}{l:List V}{q:Nat}{v:V}(a:h.get i=some (.cells (.rw t true) l))(b:l[q]?=some v)(hl:liesAt P P.depth t (l.length / P.cellsOf t) q u 1=true):Yw P u (.ptr i q) h=.ok (.ptr i q) h:=by
 show dR h i (λwr cs=>(match wr with
  | .rw t full=>(match full,LK q cs,liesAt P P.depth t (cs.length / P.cellsOf t) q u 1 with
   |true,some _,true=>R.ok (V.ptr i q) h
   |_,_,_=>.bad)
  | .ro=>.bad))=_
 rw[dM (wr:=.rw t true) (all:=l) (by rw[a];rfl)];simp only[oz,b,hl]
def aJR{b n:Nat}{v:V}{s t:List Nat}(o:Ow b h el 1 v n (bys s))(hb:b<=h.next.nat)(d:(n+t.length)*bt<=140737488355328):
  ∃v' h',bZ el 1 bt v (.str t) h=.ok v' h'/\Ow b h' el 1 v' (n+t.length) (bys (s++t))/\Ch (λj=>bV v=some j) h h'/\(∀j,bV v'=some j->bV v=some j\/h.next.nat<=j.nat):=by
 have hl:(bys (s++t)).length=(n+t.length)*1:=by rw[aaD,C!,o.len,Dj];omega
 have a:∀f:Nat->List V->R V,qK 1 (.str t) h f=f t.length (bys t):=λf=>by
  show(match q! 1 1 with|true=>f t.length (u8s t)|false=>.bad)=_;rw[ay9]
 unfold bZ;rw[a];cases t with
 |nil=>
  simp only[D!,List.append_nil] at*;rcases o.is with⟨rfl,rfl⟩|⟨i,rfl,e,hi,f1,g⟩
  ·exact⟨_,_,rfl,o,Ch.refl _ _,λj hj=>(by cases hj)⟩
  ·exact⟨_,_,rfl,o,Ch.refl _ _,λj hj=>.inl hj⟩
 |cons c t=>
  simp only[p!];rcases o.is with⟨rfl,rfl⟩|⟨i,rfl,e,hi,f1,g⟩
  ·have m:s= []:=by have:=o.len;rw[Dj]at this;exact x!.1 (by omega)
   subst m;simp only[];rw[qC (by rw[p!,o!]at d;exact d)];refine⟨_,_,rfl,⟨hl,.inr ⟨h.next,by simp,hb,by rw[bG];omega,false,?_⟩⟩,Ch.new _ _ _,λj hj=>by cases hj;exact .inr (v! _)⟩;rw[List.nil_append];exact dU _ _
  ·simp only[];rw[dM (wr:=.rw el f1) (all:=bys s) (by rw[g];rfl)];have hn:(bys s).length=n*1:=o.len;have k:gJ (n*1) (fG 0 (bys s))=some (bys s):=by rw[jO,z!,<-hn,aen]
   have l:fG (n*1) (fG 0 (bys s))= []:=by rw[jO,jO,z!,<-hn,O!]
   simp only[dF,k,l,t!];rw[qC (by rw[p!]at d;exact d)];refine⟨_,_,rfl,⟨hl,.inr ⟨h.next,rfl,hb,by rw[bG,jJ];omega,false,?_⟩⟩,(Ch.put (S:=λj=>bV (.slice i 0 n (.un 1))=some j) h none rfl).trans (Ch.new (λ_=>False) _ _) λ_ _ q=>q.elim,λj hj=>by cases hj;exact .inr (v! _)⟩;rw[aaD];exact dU (h.put i none) _
def atQ{i:Pos}{t:TypeId}{f:Bool}{s:List Nat}(e:h.get i=some (.cells (.rw t f) (bys s)))(g:∀b∈s,b<256)(hl:s.length<=9223372036854775807)(h0:s≠ []):
  Ij t (.ptr i 0) (.int .i64 (s.length:Int)) h=.ok (.str s) (h.put i (some (.cells .ro (bys s)))):=by
 obtain⟨m,d⟩:∃m,s.length=m+1:=by
  cases s with
  |nil=>exact absurd rfl h0
  |cons a l=>exact⟨l.length,rfl⟩
 rw[d];show dR h i (λwr cs=>(match wr with
   | .rw t' _=>(match q! t' t with
    |true=>(match gJ (m+1) (fG 0 cs) with
     |some l=>(match tq l with
      |some s=>(match g! s.length 9223372036854775807 with|true=>R.ok (V.str s) (h.put i (some (.cells .ro cs)))|false=>.bad)
      |none=>.bad)
     |none=>.bad)
    |false=>.bad)
   | .ro=>.bad))=_
 rw[dM (wr:=.rw t f) (all:=bys s) (by rw[e];rfl)];simp only[t!];rw[Bc (cs:=bys s) (λk hk=>by rw[o!]) (by rw[Dj,d])];simp only[];rw[aaf g];simp only[];rw[c! hl]
end
section
variable{h:Hp}{el:TypeId}{c:EqC}
def akz{a b:Int}(d: -9223372036854775808<=a*b)(e:a*b<9223372036854775808):aJ .mul c (.int .i64 a) (.int .i64 b) h=.ok (.int .i64 (a*b)) h:=by
 show iH .i64 (wrap64 (a*b)) h=_;rw[wrap64_in d e,gK]
def aky{a b:Int}(h0:b≠0)(d: -9223372036854775808<=a.tdiv b)(e:a.tdiv b<9223372036854775808):aJ .quo c (.int .i64 a) (.int .i64 b) h=.ok (.int .i64 (a.tdiv b)) h:=by
 show(match nR b 0 with|true=>R.bad|false=>iH .i64 (wrap64 (Int.tdiv a b)) h)=_;rw[Bq,decide_eq_false h0];simp only[];rw[wrap64_in d e,gK]
def aeL:apd .aQ h=.ok (.int .i64 0) h:=(rfl)
def Wl:aZ 2 .aQ h=.ok (.int .i64 0) h:=(rfl)
def aD3{n:Nat}(hn:n<=140737488355328):aeQ el [.int .i64 (n:Int)] h=.ok (.slice h.next 0 n (.un 1)) (h.new (.cells (.rw el false) [])):=by
 show(match g! n 140737488355328 with
     |true=>R.ok (V.slice h.next 0 n (.un 1)) (h.new (.cells (.rw el false) []))
     |false=>.bad)=_
 rw[c! hn]
def aCb(p:Pos)(n:Nat):eP 1 (.slice p 0 n (.un 1)) none (some (.int .i64 0)) none h=.ok (.slice p 0 0 (.un 1)) h:=by
 show(match g! 0 n,g! 0 0,q! 1 1 with
  |true,true,true=>R.ok (V.slice p 0 0 (.un 1)) h
  |_,_,_=>R.bad)=_
 rw[c! (A! n)]
def aCh(p:Pos)(o n:Nat)(k:Cap):ami 1 (.slice p o n k) .aQ h=.ok (.int .i64 0) h:=by
 show(match g! 0 n with|true=>R.ok (V.int .i64 (.ofNat 0)) h|false=>.bad)=_;rw[c! (A! n)];rfl
def az3{m:Hp->R V}{v:V}{k:Out}{g a f b:Hp}(i:m g=.ok v f)(d:m a=.ok v b)(e:eqV v v=true):chk m v k 2 [g,a]=k:=by
 show(match m g with| .ok v' _=>(match eqV v v' with|true=>chk m v k 1 [a]|false=>.bad)| .bad=>.bad)=_;rw[i];simp only[e];exact LY d e
def dN(sep:List Nat):List (List Nat)->List Nat
 | []=> []
 |a::r=>(match r with| []=>a|_::_=>a++sep++dN sep r)
def iI(sep:List Nat)(l:List (List Nat)):List Nat:=(l.map λa=>sep++a).flatten
def xX(sep a:List Nat):∀r,dN sep (a::r)=a++iI sep r
 | []=>by simp[dN,iI]
 |b::r=>by
  show a++sep++dN sep (b::r)=_;rw[xX sep b r];simp[iI]
def Io(sep:List Nat)(l:List (List Nat))(a:List Nat):iI sep (l++ [a])=iI sep l++(sep++a):=by simp[iI]
def fV(l:List (List Nat)):Nat:=(l.map List.length).sum
def aBW(l:List (List Nat))(a:List Nat):fV (l++ [a])=fV l+a.length:=by simp[fV]
def al5(l:List (List Nat))(k:Nat):fV (l.take k)<=fV l:=by
 have e:fV l=fV (l.take k)+fV (l.drop k):=by
  unfold fV;rw[<-List.sum_append,<-List.map_append,List.take_append_drop]
 omega
def aeW(sep:List Nat)(l:List (List Nat)):(iI sep l).length=fV l+sep.length*l.length:=by
 induction l with
 |nil=>simp[iI,fV]
 |cons a l b=>simp[iI,fV]at b⊢;rw[b,Nat.mul_succ];omega
end
def vmL:type_of% @XT/\type_of% @Ox/\type_of% @aqX/\type_of% @atT/\type_of% @akI/\type_of% @apL/\type_of% @tu/\type_of% @akS/\type_of% @avr/\type_of% @ars/\type_of% @apr/\type_of% @aps/\type_of% @az5/\type_of% @avW/\type_of% @avV/\type_of% @apM/\type_of% @Q!/\type_of% @R!/\type_of% @pK/\type_of% @LJ/\type_of% @au5/\type_of% @au0/\type_of% @au1/\type_of% @au2/\type_of% @au3/\type_of% @au4/\type_of% @azr/\type_of% @amd/\type_of% @aic/\type_of% @amh/\type_of% @amg/\type_of% @amf/\type_of% @azu/\type_of% @ahi/\type_of% @abT/\type_of% @Um/\type_of% @akx/\type_of% @X4/\type_of% @Un/\type_of% @aeO/\type_of% @yM/\type_of% @auX/\type_of% @abU/\type_of% @akT/\type_of% @az4/\type_of% @amI/\type_of% @abW/\type_of% @X3/\type_of% @arH/\type_of% @T!/\type_of% @S!:=
 ⟨@XT,@Ox,@aqX,@atT,@akI,@apL,@tu,@akS,@avr,@ars,@apr,@aps,@az5,@avW,@avV,@apM,@Q!,@R!,@pK,@LJ,@au5,@au0,@au1,@au2,@au3,@au4,@azr,@amd,@aic,@amh,@amg,@amf,@azu,@ahi,@abT,@Um,@akx,@X4,@Un,@aeO,@yM,@auX,@abU,@akT,@az4,@amI,@abW,@X3,@arH,@T!,@S!⟩
def vsL:type_of% @aeN/\type_of% @aeM/\type_of% @aeK/\type_of% @abS/\type_of% @o!/\type_of% @auB:=
 ⟨@aeN,@aeM,@aeK,@abS,@o!,@auB⟩
def vpL:(∀{α:Type} (a b:α),(some a).getD b=a)/\(∀{α:Type} (b:α),(none:Option α).getD b=b)/\(∀{α:Type} (a:α),(some a).isSome=true)/\(∀{α:Type},(none:Option α).isSome=false):=
 ⟨λ_ _=>rfl,λ_=>rfl,λ_=>rfl,rfl⟩
def vqL:(∀{α:Type} (a b:α),(a≠b)=¬(a=b))/\(∀h:Decidable True,@decide True h=true)/\(∀h:Decidable False,@decide False h=false)/\((¬True)=False)/\((¬False)=True):=
 ⟨λ_ _=>rfl,λh=>decide_true h,λh=>decide_false h,propext not_true,not_false_eq_true⟩
section
variable{P:Program}{G:Nat}
abbrev Rg:Type:=F->Hp->Out
def kR{p:Prop}(h:p:=by kernel_rfl):p:=h
def ge(n:Nat)(fr:F):Option V:=T.get fr (Pos.of n)
instance:CoeFun F (λ_=>Nat->(V->Out)->Out):=⟨λf n=>gtO (ge n f)⟩
def ss(n:Nat)(v:V)(fr:F):F:=T.set (some v) (Pos.of n) fr
def rM(d s:Nat)(fr:F)(h:Hp):Out:=gtO (T.get fr (Pos.of s)) λv=>.nor (T.set (some v) (Pos.of d) fr) h
def rC(d:Nat)(c:V)(fr:F)(h:Hp):Out:=.nor (T.set (some c) (Pos.of d) fr) h
def r1(d s:Nat)(f:V->Hp->R V)(fr:F)(h:Hp):Out:=gtO (T.get fr (Pos.of s)) λv=>f v h λw g=>.nor (T.set (some w) (Pos.of d) fr) g
def r2(d a b:Nat)(f:V->V->Hp->R V)(fr:F)(h:Hp):Out:=gtO (T.get fr (Pos.of a)) λu=>gtO (T.get fr (Pos.of b)) λv=>f u v h λw g=>.nor (T.set (some w) (Pos.of d) fr) g
def vzL:(∀n fr,ge n fr=T.get fr (Pos.of n))/\(∀n v fr,ss n v fr=T.set (some v) (Pos.of n) fr)/\(∀d s fr h,rM d s fr h=gtO (T.get fr (Pos.of s)) λv=>.nor (T.set (some v) (Pos.of d) fr) h)/\
  (∀d c fr h,rC d c fr h=.nor (T.set (some c) (Pos.of d) fr) h)/\(∀d s f fr h,r1 d s f fr h=gtO (T.get fr (Pos.of s)) λv=>f v h λw g=>.nor (T.set (some w) (Pos.of d) fr) g)/\
  (∀d a b f fr h,r2 d a b f fr h=gtO (T.get fr (Pos.of a)) λu=>gtO (T.get fr (Pos.of b)) λv=>f u v h λw g=>.nor (T.set (some w) (Pos.of d) fr) g):=
 ⟨λ_ _=>rfl,λ_ _ _=>rfl,λ_ _ _ _=>rfl,λ_ _ _ _=>rfl,λ_ _ _ _ _=>rfl,λ_ _ _ _ _ _=>rfl⟩
def kp(l:List Nat)(t:Nat):Bool:=Us t l
def fE1{P:Program}{ks:List Nat}{N:Nat}{b:List ResultVar}{D:F->Hp->Out}(F:Fun)(e:F=aY P (kp ks) N b D)(q:(g! 1 N&&kp ks 0)=true:=by kernel_rfl)(a:V)(h:Hp):F [a] h=bU P b (D (ss 0 a T.nil) h):=by
 simp only[a!]at q;rw[e];unfold aY;rw[show g! [a].length N=true from q.1];unfold jU;rw[q.2];rfl
def fE2{P:Program}{ks:List Nat}{N:Nat}{c:List ResultVar}{D:F->Hp->Out}(F:Fun)(e:F=aY P (kp ks) N c D)(q:(g! 2 N&&(kp ks 0&&kp ks 1))=true:=by kernel_rfl)(a b:V)(h:Hp):F [a,b] h=bU P c (D (ss 1 b (ss 0 a T.nil)) h):=by
 simp only[a!]at q;rw[e];unfold aY;rw[show g! [a,b].length N=true from q.1];unfold jU jU;rw[q.2.1,q.2.2];rfl
def fE3{P:Program}{ks:List Nat}{N:Nat}{d:List ResultVar}{D:F->Hp->Out}(F:Fun)(e:F=aY P (kp ks) N d D)(q:(g! 3 N&&(kp ks 0&&(kp ks 1&&kp ks 2)))=true:=by kernel_rfl)(a b c:V)(h:Hp):F [a,b,c] h=bU P d (D (ss 2 c (ss 1 b (ss 0 a T.nil))) h):=by
 simp only[a!]at q;rw[e];unfold aY;rw[show g! [a,b,c].length N=true from q.1];unfold jU jU jU;rw[q.2.1,q.2.2.1,q.2.2.2];rfl
def fE4{P:Program}{ks:List Nat}{N:Nat}{f:List ResultVar}{D:F->Hp->Out}(F:Fun)(e:F=aY P (kp ks) N f D)(q:(g! 4 N&&(kp ks 0&&(kp ks 1&&(kp ks 2&&kp ks 3))))=true:=by kernel_rfl)(a b c d:V)(h:Hp):F [a,b,c,d] h=bU P f (D (ss 3 d (ss 2 c (ss 1 b (ss 0 a T.nil)))) h):=by
 simp only[a!]at q;rw[e];unfold aY;rw[show g! [a,b,c,d].length N=true from q.1];unfold jU jU jU jU;rw[q.2.1,q.2.2.1,q.2.2.2.1,q.2.2.2.2];rfl
def fE5{P:Program}{ks:List Nat}{N:Nat}{f:List ResultVar}{D:F->Hp->Out}(F:Fun)(e:F=aY P (kp ks) N f D)(q:(g! 5 N&&(kp ks 0&&(kp ks 1&&(kp ks 2&&(kp ks 3&&kp ks 4)))))=true:=by kernel_rfl)(a b c d l:V)(h:Hp):F [a,b,c,d,l] h=bU P f (D (ss 4 l (ss 3 d (ss 2 c (ss 1 b (ss 0 a T.nil))))) h):=by
 simp only[a!]at q;rw[e];unfold aY;rw[show g! [a,b,c,d,l].length N=true from q.1];unfold jU jU jU jU jU;rw[q.2.1,q.2.2.1,q.2.2.2.1,q.2.2.2.2.1,q.2.2.2.2.2];rfl
def nO:List (FuncId×Fun)->FuncId->Option Fun
 | [],_=>none
 |(g,F)::l,f=>(match q! f g with|true=>some F|false=>nO l f)
def aQl:Nat->Cls
 |0=>.pure
 |1=>.alloc
 |2=>.heavy
 |n+3=>.read n
def fK:List Nat->Plan
 | []=> []
 |n::l=>(n / 16,aQl (n % 16))::fK l
def plL:List (Nat×List Nat×Plan)->bQ
 | [],_=>none
 |(g,m,p)::l,f=>(match q! f g with|true=>some (m,p)|false=>plL l f)
def bC:∀f F,nO [] f=some F->aH P G f F:=λ_ _ h=>by cases h
def aU{g:FuncId}{F:Fun}{l:List (FuncId×Fun)}(b:aH P G g F)(c:∀f F,nO l f=some F->aH P G f F):∀f a,nO ((g,F)::l) f=some a->aH P G f a:=aP b c
def vvA:type_of% vmL/\type_of% vpL/\type_of% vsL/\type_of% vqL/\type_of% vzL:=⟨vmL,vpL,vsL,vqL,vzL⟩
def qS0{p:Prop}(h:p:=by simp only[vvA,seval]):p:=h
def qS2{p q:Prop}(f:q)(h:q->p:=by intro f;simp only[vvA,seval,f]):p:=h f
def qS1{p:Prop}(h:p:=by simp only[vvA,seval]<;>rfl):p:=h
def qS3{p q:Prop}(f:q)(h:q->p:=by intro f;simp only[vvA,seval,f]<;>rfl):p:=h f
end
section
variable{P:Program}{G N:Nat}{keep:Nat->Bool}{e:FuncId->Option Fun}
def gone(c:List Nat):Code->Bool
 | .region id _ _=>Us id c
 | .seq a _=>gone c a
 | .cond _ a b=>gone c a&&gone c b
 | .block _ b=>gone c b
 | .loop b=>gone c b
 | .scope b=>gone c b
 |_=>false
def FB(f:List Nat):Code->Code
 | .region id ops d=>(match Us id f with|true=>.refuse "" |false=>.region id ops d)
 | .seq a b=>(match gone f a with|true=>.refuse "" |false=>.seq (FB f a) (FB f b))
 | .cond c a b=>(match gone f a&&gone f b with|true=>.refuse "" |false=>.cond c (FB f a) (FB f b))
 | .block id b=>(match gone f b with|true=>.refuse "" |false=>.block id (FB f b))
 | .loop b=>(match gone f b with|true=>.refuse "" |false=>.loop (FB f b))
 | .scope b=>(match gone f b with|true=>.refuse "" |false=>.scope (FB f b))
 |c=>c
def Gf(k:P.follows .mixedOrders=true)(j:∀f F,e f=some F->aH P G f F)(l:List Nat)(pl:bQ)(lf:Nat):(c:Code)->codeOk G N c=true->dS P keep G N c (nP P G N keep e pl lf (FB l c))
 | .skip,h=>dY k j pl lf _ h
 | .label _,h=>dY k j pl lf _ h
 | .region id ops d,h=>by
  unfold FB;split
  ·exact .bad
  ·exact dY k j pl lf _ h
 | .seq a b,i=>by
  unfold FB;split
  ·exact .bad
  ·simp only[codeOk,a!]at i;exact .seq (Gf k j l pl lf a i.1) (Gf k j l pl lf b i.2)
 | .cond c a b,i=>by
  unfold FB;split
  ·exact .bad
  ·simp only[codeOk,a!]at i;simp only[nP,apF];refine .cond (λg m=>?_) (Gf k j l pl lf a i.2.1) (Gf k j l pl lf b i.2.2);subst m;simpa[d!]using i.1
 | .block id b,i=>by
  unfold FB;split
  ·exact .bad
  ·exact .block (Gf k j l pl lf b i)
 | .loop b,i=>by
  unfold FB;split
  ·exact .bad
  ·exact .loop (Gf k j l pl lf b i) lf
 | .scope b,i=>by
  unfold FB;split
  ·exact .bad
  ·exact .scope (Gf k j l pl lf b i)
 | .exit _,h=>dY k j pl lf _ h
 | .ret,h=>dY k j pl lf _ h
 | .goto _,_=>.bad
 | .rangeFunc ..,_=>.bad
 | .refuse _,_=>.bad
def zz:F->Hp->Out:=λ_ _=>.bad
def prX(i:P.follows .mixedOrders=true){f:FuncId}{fn:Func}{N:Nat}{c:List ResultVar}{ks:List Nat}{D:F->Hp->Out}{l:List (FuncId×Fun)}(b:List Nat)(pl:List (Nat×List Nat×Plan))(g:∀f F,nO l f=some F->aH P G f F)(h:P.funcs[f]?=some fn)
  (a:ahn G fn=true:=by kernel_rfl) (d:nP P G N (kp ks) (nO l) (plL pl) lf (FB b (codeOf fn))=D:=by kernel_rfl) (j:(fn.ntmps,fn.results.toList)=(N,c):=by kernel_rfl) (hb:fn.body=some (codeOf fn):=by kernel_rfl):aH P G f (aY P (kp ks) N c D):=by
 cases j;unfold ahn at a;rw[hb]at a;simp only[a!,Bool.not_eq_true']at a;rw[<-d];exact apH h a.2 hb (Gf i g b (plL pl) lf _ a.1)
end
section
variable{P:Program}{G:Nat}
def SG(ρ:Pos->Pos):Fn->Fn
 | .yield k=>.yield (ρ (Pos.of k)).nat
 | .func f=>.func f
 | .method n=>.method n
 | .methodOf t n=>.methodOf t n
 | .via t p f b=>.via t p f b
def aho(n:Nat):Fn->Bool
 | .yield k=>i! k n
 | .func _=>true
 | .method _=>true
 | .methodOf _ _=>true
 | .via _ _ _ _=>true
def V.ren(ρ:Pos->Pos):V->V
 | .bool b=>.bool b
 | .int k n=>.int k n
 | .str s=>.str s
 | .ptr i o=>.ptr (ρ i) o
 | .cZ=>.cZ
 | .slice i o n c=>.slice (ρ i) o n c
 | .aQ=>.aQ
 | .emp=>.emp
 | .map i=>.map (ρ i)
 | .jM=>.jM
 | .func fn a b=>.func (SG ρ fn) (a.ren ρ) (b.ren ρ)
 | .fJ=>.fJ
 | .iface t v=>.iface t (v.ren ρ)
 | .oQ=>.oQ
 | .agg l=>.agg (l.ren ρ)
 | .tuple l=>.tuple (l.ren ρ)
 | .nil=>.nil
 | .cons a b=>.cons (a.ren ρ) (b.ren ρ)
def V.ins(n:Nat):V->Bool
 | .bool _=>true
 | .int _ _=>true
 | .str _=>true
 | .ptr i _=>i! i.nat n
 | .cZ=>true
 | .slice i _ _ _=>i! i.nat n
 | .aQ=>true
 | .emp=>true
 | .map i=>i! i.nat n
 | .jM=>true
 | .func fn a b=>aho n fn&&(a.ins n&&b.ins n)
 | .fJ=>true
 | .iface _ v=>v.ins n
 | .oQ=>true
 | .agg l=>l.ins n
 | .tuple l=>l.ins n
 | .nil=>true
 | .cons a b=>a.ins n&&b.ins n
def Ob.ren(ρ:Pos->Pos):Ob->Ob
 | .cells w cs=>.cells w (cs.map (V.ren ρ))
 | .map es=>.map (es.map λp=>(p.1.ren ρ,p.2.ren ρ))
 | .iter s n=>.iter s n
 | .bytes cs=>.bytes (cs.map (V.ren ρ))
def insL(n:Nat):List V->Bool
 | []=>true
 |v::l=>v.ins n&&insL n l
def aaq(n:Nat):List (V×V)->Bool
 | []=>true
 |p::l=>(p.1.ins n&&p.2.ins n)&&aaq n l
def Ob.ins(n:Nat):Ob->Bool
 | .cells _ cs=>insL n cs
 | .map es=>aaq n es
 | .iter _ _=>true
 | .bytes cs=>insL n cs
def Ux{n:Nat}:∀{l:List V},insL n l=true->∀v∈l,v.ins n=true
 | [],_,v,h=>by cases h
 |u::l,h,v,a=>by
  simp only[insL,a!]at h;rcases B!.1 a with rfl|a
  ·exact h.1
  ·exact Ux h.2 v a
def V.oq(ρ:Pos->Pos)(v:V):(v.ren ρ).isRow=v.isRow:=by cases v<;>rfl
def Ob.CU(ρ:Pos->Pos)(o:Ob):(o.ren ρ).own=o.own:=by cases o<;>rfl
def arq(ρ:Pos->Pos)(x y:V):iL (x.ren ρ) (y.ren ρ)=iL x y:=by cases x<;>cases y<;>rfl
variable{M N:Mp}{ρ:Pos->Pos}
def Dt.ren(c:∀i L,N i=some L->M (ρ i)=some L){f g:Fn}(h:Dt N f g):Dt M (SG ρ f) g:=by
 cases f<;>first|exact h|(obtain⟨L,a,b⟩:=h;exact⟨L,by rw[Pos.Ii];exact c _ _ a,b⟩)
def Dt.oH{n:Nat}(c:∀i,i.nat<n->∀L,M (ρ i)=some L->N i=some L){f g:Fn}(hi:aho n f=true)(h:Dt M (SG ρ f) g):Dt N f g:=by
 cases f<;>first|exact h|(obtain⟨L,a,b⟩:=h;exact⟨L,c _ (by rw[Pos.fD];simpa[aho,d!]using hi) L (by rw[Pos.Ii]at a;exact a),b⟩)
def Rep.ren(r:∀i L,N i=some L->M (ρ i)=some L){v:V}:∀{l:List Value},Rep N v l->Rep M (v.ren ρ) l:=by
 induction v with
 |ptr i o=>rintro l ⟨L,h,e⟩;exact⟨L,r _ _ h,e⟩
 |slice i o n c=>rintro l ⟨L,k,h,s,e⟩;exact⟨L,k,r _ _ h,s,e⟩
 |map i=>rintro l ⟨L,h,e⟩;exact⟨L,r _ _ h,e⟩
 |func fn a b d j=>rintro l ⟨f,x,y,q,p,h,g,e⟩;exact⟨f,x,y,q.ren r,⟨by rw[V.oq];exact p.1,by rw[V.oq];exact p.2⟩,d h,j g,e⟩
 |iface t v m=>rintro l ⟨x,p,h,e⟩;exact⟨x,by rw[V.oq];exact p,m h,e⟩
 |agg a m=>rintro l ⟨x,p,h,e⟩;exact⟨x,by rw[V.oq];exact p,m h,e⟩
 |tuple a m=>rintro l ⟨x,p,h,e⟩;exact⟨x,by rw[V.oq];exact p,m h,e⟩
 |cons a b d j=>rintro l ⟨x,xs,q,h,p,g,e⟩;exact⟨x,xs,by rw[V.oq];exact q,d h,by rw[V.oq];exact p,j g,e⟩
 |_=>intro l h;exact h
def Rep.oH{n:Nat}(r:∀i,i.nat<n->∀L,M (ρ i)=some L->N i=some L){v:V}:∀{l:List Value},v.ins n=true->Rep M (v.ren ρ) l->Rep N v l:=by
 induction v with
 |ptr i o=>rintro l hi ⟨L,h,e⟩;exact⟨L,r _ (by simpa[V.ins,d!]using hi) _ h,e⟩
 |slice i o n c=>rintro l hi ⟨L,k,h,s,e⟩;exact⟨L,k,r _ (by simpa[V.ins,d!]using hi) _ h,s,e⟩
 |map i=>rintro l hi ⟨L,h,e⟩;exact⟨L,r _ (by simpa[V.ins,d!]using hi) _ h,e⟩
 |func fn a b d j=>
  rintro l hi ⟨f,x,y,q,p,h,g,e⟩;simp only[V.ins,a!]at hi;rw[V.oq,V.oq]at p;exact⟨f,x,y,q.oH r hi.1,p,d hi.2.1 h,j hi.2.2 g,e⟩
 |iface t v m=>rintro l hi ⟨x,p,h,e⟩;rw[V.oq]at p;exact⟨x,p,m hi h,e⟩
 |agg a m=>rintro l hi ⟨x,p,h,e⟩;rw[V.oq]at p;exact⟨x,p,m hi h,e⟩
 |tuple a m=>rintro l hi ⟨x,p,h,e⟩;rw[V.oq]at p;exact⟨x,p,m hi h,e⟩
 |cons a b d j=>
  rintro l hi ⟨x,xs,q,h,p,g,e⟩;simp only[V.ins,a!]at hi;rw[V.oq]at p q;exact⟨x,xs,q,d hi.1 h,p,j hi.2 g,e⟩
 |_=>intro l _ h;exact h
def Rp.ren(a:∀i L,N i=some L->M (ρ i)=some L){v:V}{c:Value}(h:Rp N v c):Rp M (v.ren ρ) c:=⟨by rw[V.oq];exact h.1,h.2.ren a⟩
def Rp.oH{n:Nat}(a:∀i,i.nat<n->∀L,M (ρ i)=some L->N i=some L){v:V}{c:Value}(hi:v.ins n=true)(h:Rp M (v.ren ρ) c):Rp N v c:=⟨by rw[<-V.oq ρ];exact h.1,h.2.oH a hi⟩
def bY.oH{n:Nat}(a:∀i,i.nat<n->∀L,M (ρ i)=some L->N i=some L):∀{vs:List V} {l:List Value},insL n vs=true->bY M (vs.map (V.ren ρ)) l->bY N vs l
 | [],_,_,h=>h
 |v::vs,_,hi,⟨x,xs,h,g,e⟩=>by
  simp only[insL,a!]at hi;exact⟨x,xs,h.oH a hi.1,bY.oH a hi.2 g,e⟩
def jd.ren(a:∀i L,N i=some L->M (ρ i)=some L):∀{es:List (V×V)} {l:List MapEntry},jd N es l->jd M (es.map λp=>(p.1.ren ρ,p.2.ren ρ)) l
 | [],_,h=>h
 |_::_,_,⟨e,es,h,g,x⟩=>⟨e,es,⟨h.1.ren a,h.2.ren a⟩,jd.ren a g,x⟩
def jd.oH{n:Nat}(a:∀i,i.nat<n->∀L,M (ρ i)=some L->N i=some L):∀{es:List (V×V)} {l:List MapEntry},aaq n es=true->jd M (es.map λp=>(p.1.ren ρ,p.2.ren ρ)) l->jd N es l
 | [],_,_,h=>h
 |p::ps,_,hi,⟨e,es,h,g,x⟩=>by
  simp only[aaq,a!]at hi;exact⟨e,es,⟨h.1.oH a hi.1.1,h.2.oH a hi.1.2⟩,jd.oH a hi.2 g,x⟩
def ig.ren{es:List (V×V)}(h:ig es):ig (es.map λp=>(p.1.ren ρ,p.2.ren ρ)):=by
 unfold ig at*;rw[r!,show((λx=>x.1)∘λp:V×V=>(p.1.ren ρ,p.2.ren ρ))=(V.ren ρ)∘(λx=>x.1) from rfl,<-r!,L!];exact h.imp λh=>by rw[arq];exact h
def ig.oH{es:List (V×V)}(h:ig (es.map λp=>(p.1.ren ρ,p.2.ren ρ))):ig es:=by
 unfold ig at*;rw[r!,show((λx=>x.1)∘λp:V×V=>(p.1.ren ρ,p.2.ren ρ))=(V.ren ρ)∘(λx=>x.1) from rfl,<-r!,L!]at h;exact h.imp λh=>by rw[arq]at h;exact h
def azD{cs:List V}{k:Nat}{v:V}(h:(cs.map (V.ren ρ))[k]?=some v):∃u,cs[k]?=some u/\v=u.ren ρ:=by
 rw[j!]at h;cases hk:cs[k]? with
 |none=>rw[hk]at h;cases h
 |some u=>rw[hk]at h;cases h;exact⟨u,rfl,rfl⟩
def get_map{cs:List V}{k:Nat}{v:V}(h:cs[k]?=some v):(cs.map (V.ren ρ))[k]?=some (v.ren ρ):=by rw[j!,h];rfl
def jV.ren(e:∀i L,N i=some L->M (ρ i)=some L){L:Loc}{w:World}{o:Ob}(h:jV N L w o):jV M L w (o.ren ρ):=by
 cases o with
 |cells wr cs=>
  obtain⟨c,el,fr,a,b,g,f⟩:=h;exact⟨c,el,fr,a,b,λk v hk=>by obtain⟨u,j,rfl⟩:=azD hk;obtain⟨x,p,q,r⟩:=g k u j;exact⟨x,p,q.ren e,r⟩,by rw[e!];exact f⟩
 |map es=>
  obtain⟨en,m,a,⟨l,p,q⟩,b,c,d⟩:=h;exact⟨en,m,a,⟨l,p,q.ren e⟩,b.ren,c,d⟩
 |iter s pos=>exact h
 |bytes cs=>
  obtain⟨c,el,fr,a,b,g,f⟩:=h;exact⟨c,el,fr,a,b,λk v hk=>by obtain⟨u,j,rfl⟩:=azD hk;obtain⟨x,p,q,r⟩:=g k u j;exact⟨x,p,q.ren e,r⟩,f⟩
def jV.oH{n:Nat}(e:∀i,i.nat<n->∀L,M (ρ i)=some L->N i=some L){L:Loc}{w:World}{o:Ob}(hi:o.ins n=true)(h:jV M L w (o.ren ρ)):jV N L w o:=by
 cases o with
 |cells wr cs=>
  obtain⟨c,el,fr,a,b,g,f⟩:=h;exact⟨c,el,fr,a,b,λk v hk=>by obtain⟨x,p,q,r⟩:=g k _ (get_map hk);exact⟨x,p,q.oH e (Ux hi _ (n! hk)),r⟩,by rw[e!]at f;exact f⟩
 |map es=>
  obtain⟨en,j,a,⟨l,p,q⟩,b,c,d⟩:=h;exact⟨en,j,a,⟨l,p,q.oH e hi⟩,b.oH,c,d⟩
 |iter s pos=>exact h
 |bytes cs=>
  obtain⟨c,el,fr,a,b,g,f⟩:=h;exact⟨c,el,fr,a,b,λk v hk=>by obtain⟨x,p,q,r⟩:=g k _ (get_map hk);exact⟨x,p,q.oH e (Ux hi _ (n! hk)),r⟩,f⟩
end
section
variable{P:Program}{G:Nat}
structure Sub (G:Nat) (ρ:Pos->Pos) (K h:Hp):Prop where
 inj:∀i j,i.nat<K.next.nat->j.nat<K.next.nat->ρ i=ρ j->i=j
 lt:∀i,i.nat<K.next.nat->(ρ i).nat<h.next.nat
 ob:∀i o,K.get i=some o->i.nat<K.next.nat/\o.ins K.next.nat=true/\h.get (ρ i)=some (o.ren ρ)
 gl:∀g,g<G->g<K.next.nat/\ρ (Pos.of g)=Pos.of g
def sig(ρ:Pos->Pos)(a b:Nat)(i:Pos):Pos:=if i.nat<a then ρ i else Pos.of (i.nat - a+b)
def aew{ρ:Pos->Pos}{a b:Nat}{i:Pos}(h:i.nat<a):sig ρ a b i=ρ i:=if_pos h
def al6{ρ:Pos->Pos}{a b:Nat}{i:Pos}(h:a<=i.nat):sig ρ a b i=Pos.of (i.nat - a+b):=if_neg (by omega)
structure Glued (ρ:Pos->Pos) (K K' h h':Hp):Prop where
 next:h'.next.nat=h.next.nat+(K'.next.nat - K.next.nat)
 old:∀i,i.nat<K.next.nat->K.get i≠none->h'.get (ρ i)=(K'.get i).map (Ob.ren (sig ρ K.next.nat h.next.nat))
 new:∀i,K.next.nat<=i.nat->i.nat<K'.next.nat->h'.get (sig ρ K.next.nat h.next.nat i)=(K'.get i).map (Ob.ren (sig ρ K.next.nat h.next.nat))
 oth:∀j,(∀i,i.nat<K.next.nat->K.get i≠none->ρ i≠j)->(j.nat<h.next.nat\/h'.next.nat<=j.nat)->h'.get j=h.get j
def Does(P:Program)(G:Nat)(f:FuncId)(a0:List V)(K:Hp)(r:V)(a:Hp):Prop:=
 ∀(M:Mp) (w:World) (cargs:List Value),Rel G M K w->bY M a0 cargs->Opq P (Post G M K w r a) ((callFunc f cargs.toArray).run P w)
def avi{f:FuncId}{a0:List V}{K K' h h':Hp}{ρ:Pos->Pos}{r0:V}(hD:Does P G f a0 K r0 K')(S:Sub G ρ K h)(hi:insL K.next.nat a0=true)(W:Glued ρ K K' h h'){M:Mp}{w:World}{cargs:List Value}(H:Rel G M h w)(ha:bY M (a0.map (V.ren ρ)) cargs):
  Opq P (Post G M h w (r0.ren (sig ρ K.next.nat h.next.nat)) h') ((callFunc f cargs.toArray).run P w):=by
 have hN:∀i,i.nat<K.next.nat->∀L,M (ρ i)=some L->(if i.nat<K.next.nat then M (ρ i) else none)=some L:=λi hi L a=>by rw[if_pos hi];exact a
 have an:Rel G (λi=>if i.nat<K.next.nat then M (ρ i) else none) K w:=by
  refine⟨λi o ae=>?_,λi aq=>if_neg (by omega),λi j o p L Q D ae au y a r=>?_,λg X=>?_⟩
  ·obtain⟨m,I,z⟩:=S.ob i o ae;obtain⟨L,a,hO⟩:=H.ob _ _ z;exact⟨L,hN i m L a,hO.oH hN I⟩
  ·obtain⟨m,-,z⟩:=S.ob i o ae;obtain⟨g1,-,g3⟩:=S.ob j p au;simp only[m,g1,if_true]at a r;exact H.sep _ _ _ _ L Q (λq=>D (S.inj i j m g1 q)) z g3 (by rw[Ob.CU];exact y) a r
  ·obtain⟨m,I⟩:=S.gl g X;obtain⟨n,hn⟩:=H.gl g X;exact⟨n,by simp only[Pos.fD,m,if_true,I];exact hn⟩
 have ac:=hD _ w cargs an (ha.oH hN hi);refine Opq.mono (λc w' hp=>?_) ac;obtain⟨N',ay,ab,l⟩:=hp;have ax:=l.next
 have ah:∀i,i.nat<K.next.nat->N' i=M (ρ i):=λi v=>by
  cases hm:M (ρ i) with
  |none=>exact l.none i v (by simp only[v,if_true];exact hm)
  |some L=>exact l.le i L (hN i v L hm)
 obtain⟨M',aa⟩:∃M':Mp,M'=λj=>if j.nat<h.next.nat then M j else N' (Pos.of (j.nat - h.next.nat+K.next.nat)):=⟨_,rfl⟩
 have d:∀j,j.nat<h.next.nat->M' j=M j:=λj hj=>by rw[aa];exact if_pos hj
 have t:∀i,M' (sig ρ K.next.nat h.next.nat i)=N' i:=λi=>by
  rcases h! i.nat K.next.nat with q|q
  ·rw[aew q,d _ (S.lt i q),ah i q]
  ·rw[al6 q,aa];simp only[Pos.fD];rw[if_neg (by omega)];congr 1;exact Pos.zo (by rw[Pos.fD];omega)
 have J:∀i L,N' i=some L->M' (sig ρ K.next.nat h.next.nat i)=some L:=λi L a=>by rw[t];exact a
 have af:M.le M':=λj L a=>by
  have:j.nat<h.next.nat:=by
   rcases h! j.nat h.next.nat with q|q
   ·exact q
   ·rw[H.fresh j q]at a;cases a
  rw[d j this];exact a
 have cases':∀j o,h'.get j=some o->(∃i o',K'.get i=some o'/\o=o'.ren (sig ρ K.next.nat h.next.nat)/\j=sig ρ K.next.nat h.next.nat i)\/
   (j.nat<h.next.nat/\h.get j=some o/\∀i,i.nat<K.next.nat->K.get i≠none->ρ i≠j):=λj o hj=>by
  by_cases O:∃i,i.nat<K.next.nat/\K.get i≠none/\ρ i=j
  ·obtain⟨i,m,I,rfl⟩:=O;rw[W.old i m I]at hj;cases hk:K'.get i with
   |none=>rw[hk]at hj;cases hj
   |some o'=>rw[hk]at hj;cases hj;exact .inl ⟨i,o',hk,rfl,(aew m).symm⟩
  ·have x:∀i,i.nat<K.next.nat->K.get i≠none->ρ i≠j:=λi m I z=>O ⟨i,m,I,z⟩;rcases h! j.nat h.next.nat with q|q
   ·rw[W.oth j x (.inl q)]at hj;exact .inr ⟨q,hj,x⟩
   ·rcases h! j.nat h'.next.nat with q'|q'
    ·have e1:j=sig ρ K.next.nat h.next.nat (Pos.of (j.nat - h.next.nat+K.next.nat)):=by
      rw[al6 (by rw[Pos.fD];omega),Pos.fD];exact Pos.zo (by rw[Pos.fD];omega)
     have aw:=W.next;rw[e1,W.new _ (by rw[Pos.fD];omega) (by rw[Pos.fD];omega)]at hj;cases hk:K'.get (Pos.of (j.nat - h.next.nat+K.next.nat)) with
     |none=>rw[hk]at hj;cases hj
     |some o'=>rw[hk]at hj;cases hj;exact .inl ⟨_,o',hk,rfl,e1⟩
    ·rw[W.oth j x (.inr q')]at hj;obtain⟨L,a,-⟩:=H.ob j o hj;rw[H.fresh j q]at a;cases a
 have B:∀j o L,h.get j=some o->M j=some L->(∀i,i.nat<K.next.nat->K.get i≠none->ρ i≠j)->∀k p Q,K.get k=some p->(if k.nat<K.next.nat then M (ρ k) else none)=some Q->(o.own=true\/p.own=true)->L.blk≠Q.blk:=
  λj o L hj a x k p Q hk r y=>by
   obtain⟨m,-,z⟩:=S.ob k p hk;simp only[m,if_true]at r;have D:=x k m (by rw[hk];simp);rcases y with y|y
   ·exact H.sep _ _ _ _ L Q D.symm hj z y a r
   ·exact λe=>H.sep _ _ _ _ Q L D z hj (by rw[Ob.CU];exact y) r a e.symm
 have am:Rel G M' h' w':=by
  refine⟨λj o hj=>?_,λj aq=>?_,λi j o p L Q D v ar y a r=>?_,λg X=>?_⟩
  ·rcases cases' j o hj with⟨i,o',hk,rfl,rfl⟩|⟨av,X,x⟩
   ·obtain⟨L,a,hO⟩:=ab.ob i o' hk;exact⟨L,J i L a,hO.ren J⟩
   ·obtain⟨L,a,hO⟩:=H.ob j o X;refine⟨L,by rw[d j av];exact a,(hO.of_block ?_).mono af⟩;exact l.same L.blk hO.lt λk p Q hk hp r=>λe=>B j o L X a x k p Q hk r (.inr hp) e.symm
  ·have aw:=W.next;rw[aa];simp only[];rw[if_neg (by omega)];exact ab.fresh _ (by rw[Pos.fD];omega)
  ·rcases cases' i o v with⟨i1,o1,E,rfl,rfl⟩|⟨s,C,U⟩<;>rcases cases' j p ar with⟨i2,o2,ak,rfl,rfl⟩|⟨Y,ad,al⟩
   ·rw[t]at a r;exact ab.sep i1 i2 o1 o2 L Q (λq=>D (by rw[q])) E ak (by rw[Ob.CU]at y;exact y) a r
   ·rw[t]at a;rw[d _ Y]at r;obtain⟨Q',aj,ap⟩:=H.ob j p ad;rw[r]at aj;cases aj;rcases l.own i1 o1 L E (by rw[Ob.CU]at y;exact y) a with hs|⟨k,pk,Z,hk,ag,u,hb⟩
    ·have:=ap.lt;omega
    ·rw[<-hb];exact λe=>B j p Q ad r al k pk Z hk u (.inr ag) e.symm
   ·rw[d _ s]at a;rw[t]at r;obtain⟨L',ai,ao⟩:=H.ob i o C;rw[a]at ai;cases ai;rcases l.all i2 o2 Q ak r with hs|⟨k,pk,Z,hk,u,hb⟩
    ·have:=ao.lt;omega
    ·rw[<-hb];exact B i o L C a U k pk Z hk u (.inl y)
   ·rw[d _ s]at a;rw[d _ Y]at r;exact H.sep i j o p L Q D C ad y a r
  ·obtain⟨m,I⟩:=S.gl g X;obtain⟨n,hn⟩:=H.gl g X;exact⟨n,af _ _ hn⟩
 refine⟨M',ay.ren J,am,af,by have:=W.next;omega,l.os,l.tape,l.output,l.size,λb hb x=>?_,λi o L v y a=>?_,λj hj hn=>?_,λi o L v a=>?_,λj hj hn=>by rw[d j hj];exact hn⟩
 ·refine l.same b hb λk p Q hk hp r=>?_;obtain⟨m,-,z⟩:=S.ob k p hk;simp only[m,if_true]at r;exact x _ _ Q z (by rw[Ob.CU];exact hp) r
 ·rcases cases' i o v with⟨i1,o1,E,rfl,rfl⟩|⟨s,C,U⟩
  ·rw[t]at a;rcases l.own i1 o1 L E (by rw[Ob.CU]at y;exact y) a with hs|⟨k,pk,Z,hk,ag,u,hb⟩
   ·exact .inl hs
   ·obtain⟨m,-,z⟩:=S.ob k pk hk;simp only[m,if_true]at u;exact .inr ⟨_,_,Z,z,by rw[Ob.CU];exact ag,u,hb⟩
  ·rw[d _ s]at a;exact .inr ⟨i,o,L,C,y,a,rfl⟩
 ·by_cases O:∃i,i.nat<K.next.nat/\K.get i≠none/\ρ i=j
  ·obtain⟨i,m,I,rfl⟩:=O;cases hk:K.get i with
   |none=>exact absurd hk I
   |some o=>rw[(S.ob i o hk).2.2]at hn;cases hn
  ·rw[W.oth j (λi m I z=>O ⟨i,m,I,z⟩) (.inl hj)];exact hn
 ·rcases cases' i o v with⟨i1,o1,E,rfl,rfl⟩|⟨s,C,U⟩
  ·rw[t]at a;rcases l.all i1 o1 L E a with hs|⟨k,pk,Z,hk,u,hb⟩
   ·exact .inl hs
   ·obtain⟨m,-,z⟩:=S.ob k pk hk;simp only[m,if_true]at u;exact .inr ⟨_,_,Z,z,u,hb⟩
  ·rw[d _ s]at a;exact .inr ⟨i,o,L,C,a,rfl⟩
def mkF:Hp->List Ob->Hp
 |h,[]=>h
 |h,o::l=>mkF (h.new o) l
def Ur:∀(l:List Ob) (h:Hp),(mkF h l).next.nat=h.next.nat+l.length
 | [],h=>rfl
 |o::l,h=>by rw[mkF,Ur l,p!];have:(h.new o).next.nat=h.next.nat+1:=Pos.fA _;omega
def X8:∀(l:List Ob) (h:Hp) (i:Pos),(mkF h l).get i=if h.next.nat<=i.nat/\i.nat<h.next.nat+l.length then l[i.nat - h.next.nat]? else h.get i
 | [],h,i=>by
  rw[if_neg]
  ·rfl
  ·simp only[D!];omega
 |o::l,h,i=>by
  rw[mkF,X8 l];have hn:(h.new o).next.nat=h.next.nat+1:=Pos.fA _;rw[hn,p!];by_cases e:i=h.next
  ·subst e;rw[if_neg (by omega),if_pos (by omega),G!];exact h.qM o
  ·have a:i.nat≠h.next.nat:=λq=>e (Pos.zo q);rw[h.jr e];by_cases hi:h.next.nat+1<=i.nat/\i.nat<h.next.nat+1+l.length
   ·rw[if_pos hi,if_pos (by omega),show i.nat - h.next.nat=(i.nat - (h.next.nat+1))+1 by omega,y!]
   ·rw[if_neg hi,if_neg (by omega)]
def apl:Hp->List (Option Ob)->Hp
 |h,[]=>h
 |h,o::l=>apl ⟨h.t.set o h.next,h.next.succ⟩ l
def mkO(G:Nat)(os:List (Option Ob)):Hp:=apl (h0 G) os
def arn:∀(l:List (Option Ob)) (h:Hp),(apl h l).next.nat=h.next.nat+l.length
 | [],h=>rfl
 |o::l,h=>by
  rw[apl,arn l,p!];show h.next.succ.nat+_=_;rw[Pos.fA];omega
def avc:∀(l:List (Option Ob)) (h:Hp) (i:Pos),(apl h l).get i=if h.next.nat<=i.nat/\i.nat<h.next.nat+l.length then(l[i.nat - h.next.nat]?).join else h.get i
 | [],h,i=>by
  rw[if_neg]
  ·rfl
  ·simp only[D!];omega
 |o::l,h,i=>by
  rw[apl,avc l];show(if h.next.succ.nat<=i.nat/\i.nat<h.next.succ.nat+l.length then(l[i.nat - h.next.succ.nat]?).join else(h.t.set o h.next).get i)=_;rw[Pos.fA,p!];by_cases e:i=h.next
  ·subst e;rw[if_neg (by omega),if_pos (by omega),G!,T.oW];rfl
  ·have a:i.nat≠h.next.nat:=λq=>e (Pos.zo q);rw[T.tJ _ e];by_cases hi:h.next.nat+1<=i.nat/\i.nat<h.next.nat+1+l.length
   ·rw[if_pos hi,if_pos (by omega),show i.nat - h.next.nat=(i.nat - (h.next.nat+1))+1 by omega,y!]
   ·rw[if_neg hi,if_neg (by omega)];rfl
def Uo(os:List (Option Ob)):(mkO G os).next.nat=G+os.length:=by
 unfold mkO;rw[arn];show(Pos.of G).nat+_=_;rw[Pos.fD]
def LQ(os:List (Option Ob))(i:Pos):(mkO G os).get i=if G<=i.nat then(os[i.nat - G]?).join else none:=by
 unfold mkO;rw[avc,ae1];show(if(Pos.of G).nat<=i.nat/\i.nat<(Pos.of G).nat+os.length then(os[i.nat - (Pos.of G).nat]?).join else none)=_;rw[Pos.fD];by_cases a:G<=i.nat
 ·by_cases b:i.nat<G+os.length
  ·rw[if_pos ⟨a,b⟩,if_pos a]
  ·rw[if_neg (by omega),if_pos a,List.getElem?_eq_none (by omega)];rfl
 ·rw[if_neg (by omega),if_neg a]
def LP:Nat->List Pos->Pos
 |_,[]=>.h
 |0,p::_=>p
 |n+1,_::l=>LP n l
def apg:∀(n:Nat) (l:List Pos),LP n l=(l[n]?).getD .h
 |n,[]=>by cases n<;>rfl
 |0,_::_=>rfl
 |n+1,_::l=>by rw[LP,apg n l];rfl
def tau(a:Nat)(l:List Pos)(i:Pos):Pos:=match i! i.nat a with|true=>i|false=>LP (i.nat - a) l
def qh{a:Nat}{l:List Pos}{i:Pos}(h:i.nat<a):tau a l i=i:=by
 unfold tau;rw[show i! i.nat a=true by simpa[d!]using h]
def TU{a:Nat}{l:List Pos}{i p:Pos}(h:a<=i.nat)(b:l[i.nat - a]?=some p):tau a l i=p:=by
 have:i! i.nat a=false:=by
  cases hb:i! i.nat a with
  |false=>rfl
  |true=>
       have:i.nat<a:=by simpa[d!]using hb
       omega
 unfold tau;rw[this];show LP (i.nat - a) l=p;rw[apg,b];rfl
def V.ag7(ρ σ:Pos->Pos)(v:V):(v.ren ρ).ren σ=v.ren (λi=>σ (ρ i)):=by
 induction v with
 |func fn a b c d=>
  simp only[V.ren,c,d];congr 1;cases fn<;>first|rfl|(simp only[SG,Pos.Ii])
 |iface t v e=>simp only[V.ren,e]
 |agg l e=>simp only[V.ren,e]
 |tuple l e=>simp only[V.ren,e]
 |cons a b c d=>simp only[V.ren,c,d]
 |_=>rfl
def ax6{n:Nat}{ρ σ:Pos->Pos}(h:∀i:Pos,i.nat<n->ρ i=σ i){f:Fn}(a:aho n f=true):SG ρ f=SG σ f:=by
 cases f<;>first|rfl|(simp only[SG];rw[h _ (by rw[Pos.fD];simpa[aho,d!]using a)])
def V.sV{n:Nat}{ρ σ:Pos->Pos}(h:∀i:Pos,i.nat<n->ρ i=σ i):∀{v:V},v.ins n=true->v.ren ρ=v.ren σ:=by
 intro v;induction v with
 |ptr i o=>intro hi;simp only[V.ren];rw[h i (by simpa[V.ins,d!]using hi)]
 |slice i o m c=>intro hi;simp only[V.ren];rw[h i (by simpa[V.ins,d!]using hi)]
 |map i=>intro hi;simp only[V.ren];rw[h i (by simpa[V.ins,d!]using hi)]
 |func fn a b d e=>
  intro hi;simp only[V.ins,a!]at hi;simp only[V.ren];rw[ax6 h hi.1,d hi.2.1,e hi.2.2]
 |iface t v f=>intro hi;simp only[V.ren];rw[f hi]
 |agg l f=>intro hi;simp only[V.ren];rw[f hi]
 |tuple l f=>intro hi;simp only[V.ren];rw[f hi]
 |cons a b d e=>
  intro hi;simp only[V.ins,a!]at hi;simp only[V.ren];rw[d hi.1,e hi.2]
 |_=>intro _;rfl
def akF{n:Nat}:∀{l:List (V×V)},aaq n l=true->∀v∈l,v.1.ins n=true/\v.2.ins n=true
 | [],_,v,h=>by cases h
 |u::l,h,v,a=>by
  simp only[aaq,a!]at h;rcases B!.1 a with rfl|a
  ·exact h.1
  ·exact akF h.2 v a
def Ob.sV{n:Nat}{ρ σ:Pos->Pos}(h:∀i:Pos,i.nat<n->ρ i=σ i){o:Ob}(hi:o.ins n=true):o.ren ρ=o.ren σ:=by
 cases o with
 |cells w cs=>simp only[Ob.ren];congr 1;exact k! λv a=>V.sV h (Ux hi v a)
 |map es=>simp only[Ob.ren];congr 1;exact k! λv a=>by rw[V.sV h (akF hi v a).1,V.sV h (akF hi v a).2]
 |iter s n=>rfl
 |bytes cs=>simp only[Ob.ren];congr 1;exact k! λv a=>V.sV h (Ux hi v a)
def Ob.ag7(ρ σ:Pos->Pos)(o:Ob):(o.ren ρ).ren σ=o.ren (λi=>σ (ρ i)):=by
 cases o with
 |cells w cs=>simp only[Ob.ren,r!];congr 1;apply k!;intro v _;exact V.ag7 ρ σ v
 |map es=>simp only[Ob.ren,r!];congr 1;apply k!;intro v _;simp only[Function.comp,V.ag7]
 |iter s n=>rfl
 |bytes cs=>simp only[Ob.ren,r!];congr 1;apply k!;intro v _;exact V.ag7 ρ σ v
def rising(b:Nat):Nat->List Pos->Bool
 |_,[]=>true
 |lo,p::l=>(g! lo p.nat&&i! p.nat b)&&rising b (p.nat+1) l
def aq6{b:Nat}:∀{lo:Nat} {l:List Pos},rising b lo l=true->(∀(k:Nat) (p:Pos),l[k]?=some p->lo+k<=p.nat/\p.nat<b)/\∀(k j:Nat) (p q:Pos),l[k]?=some p->l[j]?=some q->k<j->p.nat<q.nat
 |_,[],_=>⟨λk p h=>by simp at h,λk j p q h=>by simp at h⟩
 |lo,p::l,h=>by
  simp only[rising,a!]at h;obtain⟨⟨f,i⟩,m⟩:=h;obtain⟨d,e⟩:=aq6 m;have g:=H! f;have c:p.nat<b:=by simpa[d!]using i
  refine⟨λk q hk=>?_,λk j q r hk hj n=>?_⟩
  ·cases k with
   |zero=>simp at hk;subst hk;exact⟨by omega,c⟩
   |succ k=>simp at hk;obtain⟨a,b⟩:=d k q hk;exact⟨by omega,b⟩
  ·cases j with
   |zero=>omega
   |succ j=>
    simp at hj;cases k with
    |zero=>simp at hk;subst hk;have:=(d j r hj).1;omega
    |succ k=>simp at hk;exact e k j q r hk hj (by omega)
def atG(n:Nat)(t:Pos->Pos)(K':Hp):Pos->List (Option Ob)->Bool
 |_,[]=>true
 |i,o::l=>(match o with
  |none=>true
  |some x=>x.ins n&&(match K'.get (t i) with|some q=>Uz q (x.ren t)|none=>false))&&atG n t K' i.succ l
def avQ{n:Nat}{t:Pos->Pos}{K':Hp}:∀{l:List (Option Ob)} {i:Pos},atG n t K' i l=true->∀(k:Nat) (x:Ob),l[k]?=some (some x)->x.ins n=true/\∀j:Pos,j.nat=i.nat+k->K'.get (t j)=some (x.ren t)
 | [],_,_,k,x,hk=>by simp at hk
 |o::l,i,h,k,x,hk=>by
  simp only[atG,a!]at h;cases k with
  |zero=>
   simp at hk;subst hk;simp only[a!]at h;refine⟨h.1.1,λj hj=>?_⟩;obtain rfl:j=i:=Pos.zo hj;have c:=h.1.2
   split at c
   ·rename_i q d;rw[d,apB c]
   ·cases c
  |succ k=>
   simp at hk;obtain⟨a,b⟩:=avQ h.2 k x hk;exact⟨a,λj hj=>b j (by rw[Pos.fA];omega)⟩
def DJ(G a:Nat)(os:List (Option Ob))(l:List Pos)(rc:V):R V->Bool
 | .ok r K'=>(ku r (rc.ren (tau a l))&&rc.ins (G+os.length))&&((q! (G+os.length) (a+l.length)&&rising K'.next.nat a l)&&atG (G+os.length) (tau a l) K' (Pos.of G) os)
 | .bad=>false
def Does.comp{f:FuncId}{F:Fun}{a0:List V}{K:Hp}{a:Nat}{os:List (Option Ob)}{l:List Pos}{rc:V}(hF:aH P G f F)(ha:K.next.nat=a)(e:DJ G a os l rc (F a0 K)=true):Does P G f a0 K rc (mkO G os):=by
 subst ha;unfold DJ at e;split at e
 ·rename_i r0 K' e0;simp only[a!]at e;obtain⟨⟨e1,e2⟩,⟨N,e4⟩,e5⟩:=e;have e1:=wB _ _ e1;have N:=u! N;obtain⟨r1,r2⟩:=aq6 e4;have Z:=avQ e5;have hn:=Uo (G:=G) os;intro M w cargs B u;refine Opq.mono (λc w' hp=>?_) (hF a0 K r0 K' M w cargs e0 B u);obtain⟨E,I,t,d⟩:=hp;have S:∀g,g<G->g<K.next.nat:=λg O=>by
   rcases h! g K.next.nat with q|q
   ·exact q
   ·obtain⟨n,hn⟩:=B.gl g O;rw[B.fresh (Pos.of g) (by rw[Pos.fD];exact q)]at hn;cases hn
  have s:∀i:Pos,K.next.nat<=i.nat->i.nat<K.next.nat+l.length->∃p,l[i.nat - K.next.nat]?=some p/\tau K.next.nat l i=p:=λi h1 h2=>by
   have:i.nat - K.next.nat<l.length:=by omega
   exact⟨_,b! this,TU h1 (b! this)⟩
  have J:∀i j:Pos,i.nat<K.next.nat+l.length->j.nat<K.next.nat+l.length->tau K.next.nat l i=tau K.next.nat l j->i=j:=λi j hi hj e=>by
   rcases h! i.nat K.next.nat with x|x<;>rcases h! j.nat K.next.nat with y|y
   ·rw[qh x,qh y]at e;exact e
   ·obtain⟨q,D,e2⟩:=s j y hj;rw[qh x,e2]at e;have:=(r1 _ _ D).1;rw[<-e]at this;omega
   ·obtain⟨q,D,e2⟩:=s i x hi;rw[qh y,e2]at e;have:=(r1 _ _ D).1;rw[e]at this;omega
   ·obtain⟨q,D,e2⟩:=s i x hi;obtain⟨r,B,N⟩:=s j y hj;rw[e2,N]at e;rcases M! (i.nat - K.next.nat) (j.nat - K.next.nat) with z|z|z
    ·have:=r2 _ _ _ _ D B z;rw[e]at this;omega
    ·exact Pos.zo (by omega)
    ·have:=r2 _ _ _ _ B D z;rw[e]at this;omega
  have m:∀i x,(mkO G os).get i=some x->i.nat<G+os.length/\x.ins (G+os.length)=true/\K'.get (tau K.next.nat l i)=some (x.ren (tau K.next.nat l)):=λi x hi=>by
   rw[LQ]at hi;split at hi
   ·rename_i hG;have hk:os[i.nat - G]?=some (some x):=by
     cases h:os[i.nat - G]? with
     |none=>rw[h]at hi;cases hi
     |some y=>rw[h]at hi;cases y with
      |none=>cases hi
      |some y=>cases hi;rfl
    have H:i.nat - G<os.length:=(l!.1 hk).1;obtain⟨p,q⟩:=Z _ _ hk;exact⟨by omega,p,q i (by rw[Pos.fD];omega)⟩
   ·cases hi
  have C:∀i:Pos,i.nat<G+os.length->∀L,E (tau K.next.nat l i)=some L->(if i.nat<G+os.length then E (tau K.next.nat l i) else none)=some L:=λi hi L k=>by rw[if_pos hi];exact k
  refine⟨λi=>if i.nat<G+os.length then E (tau K.next.nat l i) else none,?_,⟨λi o hi=>?_,λi aa=>if_neg (by omega),λi j o p L Q W hi hj Y k hQ=>?_,λg O=>?_⟩,
   ⟨λi L k=>?_,by omega,d.os,d.tape,d.output,d.size,λb hb X=>d.same b hb X,λi o L hi Y k=>?_,λi hi v=>?_,λi o L hi k=>?_,λi hi v=>?_⟩⟩
  ·rw[e1]at I;exact I.oH C e2
  ·obtain⟨a1,a2,a3⟩:=m i o hi;obtain⟨L,k,hO⟩:=t.ob _ _ a3;exact⟨L,C i a1 L k,hO.oH C a2⟩
  ·obtain⟨a1,a2,a3⟩:=m i o hi;obtain⟨b1,b2,b3⟩:=m j p hj;simp only[a1,b1,if_true]at k hQ;exact t.sep _ _ _ _ L Q (λq=>W (J i j (by omega) (by omega) q)) a3 b3 (by rw[Ob.CU];exact Y) k hQ
  ·obtain⟨n,U⟩:=t.gl g O;have:=S g O;refine⟨n,?_⟩;simp only[Pos.fD];rw[if_pos (by omega),qh (by rw[Pos.fD];exact this)];exact U
  ·have H:i.nat<K.next.nat:=by
    rcases h! i.nat K.next.nat with q|q
    ·exact q
    ·rw[B.fresh i q]at k;cases k
   show(if i.nat<G+os.length then E (tau K.next.nat l i) else none)=some L;rw[if_pos (by omega),qh H];exact d.le i L k
  ·obtain⟨a1,a2,a3⟩:=m i o hi;simp only[a1,if_true]at k;exact d.own _ _ L a3 (by rw[Ob.CU];exact Y) k
  ·cases hc:(mkO G os).get i with
   |none=>rfl
   |some x=>
    obtain⟨a1,a2,a3⟩:=m i x hc;rw[qh hi,d.old i hi v]at a3;cases a3
  ·obtain⟨a1,a2,a3⟩:=m i o hi;simp only[a1,if_true]at k;exact d.all _ _ L a3 k
  ·show(if i.nat<G+os.length then E (tau K.next.nat l i) else none)=none;split
   ·rw[qh hi];exact d.none i hi v
   ·rfl
 ·cases e
def aIb:List Pos->Pos->List Pos
 | [],p=> [p]
 |q::l,p=>q::aIb l p
def aeV:List Pos->Nat
 | []=>0
 |_::l=>(aeV l).succ
def aHi(G:Nat)(i j:Pos)(L:List Pos):List Pos:=match q! i.nat (G+aeV L) with|true=>aIb L j|false=>L
def aGs(G:Nat)(p:V):V->List Pos->List Pos:=
 V.rec (motive:=λ_=>V->List Pos->List Pos) (λ_ _ L=>L) (λ_ _ _ L=>L) (λ_ _ L=>L)
  (λi _ v L=>match v with| .ptr j _=>aHi G i j L|_=>L) (λ_ L=>L)
  (λi _ _ _ v L=>match v with| .slice j _ _ _=>aHi G i j L|_=>L) (λ_ L=>L) (λ_ L=>L)
  (λi v L=>match v with| .map j=>aHi G i j L|_=>L) (λ_ L=>L)
  (λ_ _ _ a b v L=>match v with| .func _ c d=>b d (a c L)|_=>L) (λ_ L=>L)
  (λ_ _ e v L=>match v with| .iface _ u=>e u L|_=>L) (λ_ L=>L)
  (λ_ e v L=>match v with| .agg u=>e u L|_=>L) (λ_ e v L=>match v with| .tuple u=>e u L|_=>L) (λ_ L=>L)
  (λ_ _ a b v L=>match v with| .cons c d=>b d (a c L)|_=>L) p
def Xn(G:Nat):List V->List V->List Pos->List Pos
 | [],_,L=>L
 |p::ps,vs,L=>(match vs with| []=>L|v::vs=>Xn G ps vs (aGs G p v L))
def aNU(G:Nat):List (V×V)->List (V×V)->List Pos->List Pos
 | [],_,L=>L
 |p::ps,vs,L=>(match vs with| []=>L|v::vs=>aNU G ps vs (aGs G p.2 v.2 (aGs G p.1 v.1 L)))
def avf(G:Nat)(o q:Ob)(L:List Pos):List Pos:=match o with
 | .cells _ l=>(match q with| .cells _ k=>Xn G l k L|_=>L)
 | .map l=>(match q with| .map k=>aNU G l k L|_=>L)
 |_=>L
def aah(G:Nat)(h:Hp):List Ob->Nat->List Pos->Option (List Pos)
 | [],_,L=>some L
 |o::ks,n,L=>(match i! n (aeV L) with
  |true=>(match h.get (LP n L) with
   |some q=>(match avf G o q L with|a=>(match Uz q (o.ren (tau G a)) with|true=>aah G h ks n.succ a|false=>none))
   |none=>none)
  |false=>none)
def Ue(t:Pos->Pos):List V->List V
 | []=> []
 |v::l=>v.ren t::Ue t l
def azm(t:Pos->Pos):∀l:List V,Ue t l=l.map (V.ren t)
 | []=>rfl
 |v::l=>by rw[Ue,azm t l];rfl
def avd(p:Pos):List Pos->Bool
 | []=>false
 |q::l=>(match p.eq q with|true=>true|false=>avd p l)
def aml{p:Pos}:∀{l:List Pos},avd p l=false->p∉l
 | [],_,h=>by cases h
 |q::l,e,h=>by
  unfold avd at e;split at e
  ·cases e
  ·rename_i a;rcases B!.1 h with rfl|h
   ·rw[Pos.eq_iff.2 rfl]at a;cases a
   ·exact aml e h
def X6:List Pos->Bool
 | []=>true
 |p::l=>(match avd p l with|true=>false|false=>X6 l)
def arh:∀{l:List Pos},X6 l=true->l.Nodup
 | [],_=>List.nodup_nil
 |p::l,h=>by
  unfold X6 at h;split at h
  ·cases h
  ·rename_i a;exact List.nodup_cons.2 ⟨aml a,arh h⟩
def arf{l:List Pos}(h:l.Nodup){i j:Nat}{p:Pos}(hi:l[i]?=some p)(hj:l[j]?=some p):i=j:=by
 have h:=List.pairwise_iff_getElem.1 (List.nodup_iff_pairwise_ne.1 h);obtain⟨a,c⟩:=l!.1 hi;obtain⟨b,hb⟩:=l!.1 hj;rcases M! i j with q|q|q
 ·exact absurd (c.trans hb.symm) (h i j a b q)
 ·exact q
 ·exact absurd (hb.trans c.symm) (h j i b a q)
def XV(a b:Nat):List Pos->Bool
 | []=>true
 |p::l=>(g! a p.nat&&i! p.nat b)&&XV a b l
def aq7{a b:Nat}:∀{l:List Pos},XV a b l=true->∀p∈l,a<=p.nat/\p.nat<b
 | [],_,p,h=>by cases h
 |q::l,e,p,h=>by
  simp only[XV,a!]at e;rcases B!.1 h with rfl|h
  ·exact⟨H! e.1.1,by simpa[d!]using e.1.2⟩
  ·exact aq7 e.2 p h
def ao8(t:Pos->Pos)(h:Hp):List Pos->List Ob->Bool
 | [],ks=>(match ks with| []=>true|_::_=>false)
 |p::l,ks=>(match ks with| []=>false|o::ks=>(match h.get p with|some q=>Uz q (o.ren t)|none=>false)&&ao8 t h l ks)
def azq{t:Pos->Pos}{h:Hp}:∀{l:List Pos} {ks:List Ob},ao8 t h l ks=true->l.length=ks.length/\∀(k:Nat) (p:Pos) (o:Ob),l[k]?=some p->ks[k]?=some o->h.get p=some (o.ren t)
 | [],[],_=>⟨rfl,λk p o h=>by simp at h⟩
 | [],_::_,h=>by cases h
 |_::_,[],h=>by cases h
 |p::l,o::ks,e=>by
  simp only[ao8,a!]at e;obtain⟨a,b⟩:=azq e.2;refine⟨by simp[a],λk q x hk c=>?_⟩;cases k with
  |zero=>
   simp at hk c;subst hk;subst c;have e1:=e.1;split at e1
   ·rename_i y d;rw[d,apB e1]
   ·cases e1
  |succ k=>simp at hk c;exact b k q x hk c
def okC(G:Nat)(a0:List V)(ks:List Ob)(args:List V)(h:Hp)(L:List Pos):Bool:=
 (eqL args (Ue (tau G L) a0)&&XV G h.next.nat L)&&(X6 L&&ao8 (tau G L) h L ks)
def Xo(G:Nat)(a0:List V)(ks:List Ob)(args:List V)(h:Hp):Option (List Pos):=match Xn G a0 args [] with
 |a=>(match eqL args (Ue (tau G a) a0) with
  |true=>(match aah G h ks 0 a with
   |some L=>(match okC G a0 ks args h L with|true=>some L|false=>none)
   |none=>none)
  |false=>none)
def aJm{a0:List V}{ks:List Ob}{args:List V}{h:Hp}{L:List Pos}(e:Xo G a0 ks args h=some L):okC G a0 ks args h L=true:=by
 unfold Xo at e;dsimp only at e;split at e
 ·split at e
  ·split at e
   ·rename_i hk;cases e;exact hk
   ·cases e
  ·cases e
 ·cases e
def succs:Pos->List Ob->List Pos
 |_,[]=> []
 |p,_::l=>p::succs p.succ l
def V8:∀{l:List Ob} {p:Pos} {k:Nat},k<l.length->(succs p l)[k]?=some (Pos.of (p.nat+k))
 | [],_,_,h=>by cases h
 |_::l,p,0,_=>by simp only[succs,List.getElem?_cons_zero,Nat.add_zero,Pos.Ii]
 |_::l,p,k+1,h=>by
  simp only[succs,y!];rw[V8 (by simpa using h),Pos.fA];congr 2;omega
def avZ:List Pos->List Pos->List Pos
 | [],m=>m
 |p::l,m=>p::avZ l m
def apN:∀l m:List Pos,avZ l m=l++m
 | [],_=>rfl
 |p::l,m=>by rw[avZ,apN l m];rfl
def patch:List (Option Ob)->List (Nat×Option Ob)->List (Option Ob)
 |os,[]=>os
 |os,c::cs=>patch (os.set c.1 c.2) cs
def aGu(t:Pos->Pos)(o:Option Ob):Option Ob:=match o with|some x=>some (x.ren t)|none=>none
def aI4(t:Pos->Pos)(o:Option Ob):aGu t o=o.map (Ob.ren t):=by cases o<;>rfl
def ZY(t:Pos->Pos)(L:List Pos):Hp->List (Nat×Option Ob)->Hp
 |h,[]=>h
 |h,c::cs=>ZY t L (h.put (LP c.1 L) (aGu t c.2)) cs
def auy(t:Pos->Pos):List Ob->List Ob
 | []=> []
 |o::l=>o.ren t::auy t l
def ag8(t:Pos->Pos):∀l:List Ob,auy t l=l.map (Ob.ren t)
 | []=>rfl
 |v::l=>by rw[auy,ag8 t l];rfl
def SE(G:Nat)(cs:List (Nat×Option Ob))(news:List Ob)(rc:V)(L:List Pos)(h:Hp):R V:=match tau G (avZ L (succs h.next news)) with
 |t=>.ok (rc.ren t) (mkF (ZY t L h cs) (auy t news))
def akC(G:Nat)(a0:List V)(ks:List Ob)(cs:List (Nat×Option Ob))(news:List Ob)(rc:V)(F:Fun):Fun:=λargs h=>match Xo G a0 ks args h with
 |some L=>SE G cs news rc L h
 |none=>F args h
def apo(n:Nat):List Ob->Bool
 | []=>true
 |o::l=>o.ins n&&apo n l
def Uw{n:Nat}:∀{l:List Ob} {k:Nat} {o:Ob},apo n l=true->l[k]?=some o->o.ins n=true
 | [],k,o,_,h=>by simp at h
 |x::l,0,o,h,e=>by
  simp only[apo,a!]at h;simp at e;subst e;exact h.1
 |x::l,k+1,o,h,e=>by
  simp only[apo,a!]at h;exact Uw h.2 (by simpa using e)
def apq(n m:Nat):List (Nat×Option Ob)->Bool
 | []=>true
 |c::cs=>(i! c.1 n&&(match c.2 with|some o=>o.ins m|none=>true))&&apq n m cs
def att(G n:Nat)(a0:List V)(ks:List Ob)(cs:List (Nat×Option Ob))(news:List Ob)(rc:V):Bool:=
 (q! ks.length n&&(insL (G+n) a0&&apo (G+n) ks))&&(apq n (G+n+news.length) cs&&(apo (G+n+news.length) news&&rc.ins (G+n+news.length)))
def OB:∀{cs:List (Nat×Option Ob)} {os:List (Option Ob)},(patch os cs).length=os.length
 | [],_=>rfl
 |c::cs,os=>by rw[patch,OB,P!]
def FV(t:Pos->Pos)(L:List Pos):∀(cs:List (Nat×Option Ob)) (h:Hp),(ZY t L h cs).next=h.next
 | [],_=>rfl
 |c::cs,h=>by rw[ZY,FV t L cs];rfl
def auD{t:Pos->Pos}{L:List Pos}{n m:Nat}(hn:L.length=n)(hd:L.Nodup):∀{cs:List (Nat×Option Ob)} {h:Hp} {os:List (Option Ob)},os.length=n->apq n m cs=true->(∀(k:Nat) (p:Pos),L[k]?=some p->h.get p=((os[k]?).join).map (Ob.ren t))->
  (∀(k:Nat) (p:Pos),L[k]?=some p->(ZY t L h cs).get p=(((patch os cs)[k]?).join).map (Ob.ren t))/\∀j,j∉L->(ZY t L h cs).get j=h.get j
 | [],h,os,_,_,f=>⟨f,λ_ _=>rfl⟩
 |c::cs,h,os,l,hi,f=>by
  simp only[apq,a!]at hi;have o:c.1<n:=by simpa[d!]using hi.1.1
  have d:c.1<L.length:=by omega
  have i:LP c.1 L=L[c.1]:=by rw[apg,b! d];rfl
  obtain⟨a,b⟩:=auD (t:=t) (m:=m) hn hd (cs:=cs) (h:=h.put (LP c.1 L) (aGu t c.2)) (os:=os.set c.1 c.2) (by rw[P!];exact l) hi.2 (λk p hk=>by
   by_cases e:k=c.1
   ·subst e;have:p=L[c.1]:=by rw[b! d]at hk;exact(Option.some.inj hk).symm
    rw[i,this,h.dQ,List.getElem?_set_self (by omega),aI4];rfl
   ·have g:p≠L[c.1]:=λq=>by
     exact e (arf hd hk (by rw[q];exact b! d))
    rw[i,h.dw g,I! (Ne.symm e)];exact f k p hk)
  refine⟨a,λj hj=>?_⟩;rw[ZY,b j hj,i,h.dw λq=>hj (by rw[q];exact List.getElem_mem d)]
def azF{f:FuncId}{F:Fun}{n:Nat}{a0:List V}{ks:List Ob}{cs:List (Nat×Option Ob)}{news:List Ob}{rc:V}(hF:aH P G f F)(hs:att G n a0 ks cs news rc=true)
  (hD:Does P G f a0 (mkO G (ks.map some)) rc (mkO G (patch (ks.map some) cs++news.map some))):aH P G f (akC G a0 ks cs news rc F):=by
 intro args h r h' M w cargs e Y ha;unfold akC at e;split at e
 ·rename_i L hL;have hk:=aJm hL;unfold okC at hk;simp only[a!]at hk;obtain⟨⟨k1,Z⟩,k3,k4⟩:=hk;have k1:=ae5 k1;rw[azm]at k1;have Z:=aq7 Z;have k3:=arh k3;obtain⟨k4,k5⟩:=azq k4;unfold att at hs;simp only[a!]at hs;obtain⟨⟨U,s2,s3⟩,s4,s5,s6⟩:=hs;have U:=u! U;have aa:L.length=n:=by omega
  have d:(mkO G (ks.map some)).next.nat=G+n:=by rw[Uo,e!,U]
  have O:(mkO G (patch (ks.map some) cs++news.map some)).next.nat=G+n+news.length:=by rw[Uo,C!,OB,e!,e!,U];omega
  have z:∀i:Pos,G<=i.nat->i.nat<G+n->∃p,L[i.nat - G]?=some p/\tau G L i=p:=λi h1 h2=>by
   have:i.nat - G<L.length:=by omega
   exact⟨_,b! this,TU h1 (b! this)⟩
  have ac:∀g,g<G->g<h.next.nat:=λg hg=>by
   rcases h! g h.next.nat with q|q
   ·exact q
   ·obtain⟨n,hn⟩:=Y.gl g hg;rw[Y.fresh (Pos.of g) (by rw[Pos.fD];exact q)]at hn;cases hn
  have S:Sub G (tau G L) (mkO G (ks.map some)) h:=by
   refine⟨λi j hi hj e=>?_,λi hi=>?_,λi o hi=>?_,λg hg=>⟨by omega,qh (by rw[Pos.fD];exact hg)⟩⟩
   ·rw[d]at hi hj;rcases h! i.nat G with x|x<;>rcases h! j.nat G with y|y
    ·rw[qh x,qh y]at e;exact e
    ·obtain⟨q,H,e2⟩:=z j y hj;rw[qh x,e2]at e;have:=(Z q (n! H)).1;rw[<-e]at this;omega
    ·obtain⟨q,H,e2⟩:=z i x hi;rw[qh y,e2]at e;have:=(Z q (n! H)).1;rw[e]at this;omega
    ·obtain⟨q,H,e2⟩:=z i x hi;obtain⟨r,Y,e3⟩:=z j y hj;rw[e2,e3]at e;subst e;have:=arf k3 H Y;exact Pos.zo (by omega)
   ·rw[d]at hi;rcases h! i.nat G with x|x
    ·rw[qh x];exact ac _ x
    ·obtain⟨q,H,e2⟩:=z i x hi;rw[e2];exact(Z q (n! H)).2
   ·rw[LQ]at hi;split at hi
    ·rename_i hG;have hk:ks[i.nat - G]?=some o:=by
      rw[j!]at hi;cases h:ks[i.nat - G]? with
      |none=>rw[h]at hi;cases hi
      |some y=>rw[h]at hi;exact hi
     have E:i.nat - G<ks.length:=(l!.1 hk).1;obtain⟨q,H,e2⟩:=z i hG (by omega);exact⟨by omega,by rw[d];exact Uw s3 hk,by rw[e2];exact k5 _ _ _ H hk⟩
    ·cases hi
  unfold SE at e;simp only[]at e;rw[apN,ag8]at e;obtain⟨t,ht⟩:∃t,t=tau G (L++succs h.next news):=⟨_,rfl⟩
  rw[<-ht]at e;cases e;have I:∀i:Pos,i.nat<G+n+news.length->sig (tau G L) (mkO G (ks.map some)).next.nat h.next.nat i=t i:=λi hi=>by
   rw[ht,d];rcases h! i.nat (G+n) with x|x
   ·rw[aew x];rcases h! i.nat G with y|y
    ·rw[qh y,qh y]
    ·obtain⟨q,H,e2⟩:=z i y x;rw[e2,TU y (by rw[w! (by omega)];exact H)]
   ·rw[al6 x];have:(L++succs h.next news)[i.nat - G]?=some (Pos.of (h.next.nat+(i.nat - G - n))):=by
     rw[E! (by omega),aa];exact V8 (by omega)
    rw[TU (by omega) this];congr 1;omega
  have ab:∀i:Pos,i.nat<G+n->tau G L i=t i:=λi hi=>by rw[<-I i (by omega),aew (by rw[d];exact hi)]
  have c1:rc.ren t=rc.ren (sig (tau G L) (mkO G (ks.map some)).next.nat h.next.nat):=V.sV (n:=G+n+news.length) (λi hi=>(I i hi).symm) s6;have Q:=auD (t:=t) (L:=L) (n:=n) (m:=G+n+news.length) aa k3 (cs:=cs) (h:=h) (os:=ks.map some) (by rw[e!];exact U) s4 (λk p hk=>by
   have E:k<ks.length:=by have:=(l!.1 hk).1;omega
   have J:ks[k]?=some ks[k]:=b! E;rw[k5 k p _ hk J,j!,J];show _=some _;rw[Ob.sV (n:=G+n) ab (Uw s3 J)])
  have B:∀(cs:List (Nat×Option Ob)) (os:List (Option Ob)),apq n (G+n+news.length) cs=true->(∀(k:Nat) (o:Ob),os[k]?=some (some o)->o.ins (G+n+news.length)=true)->∀(k:Nat) (o:Ob),(patch os cs)[k]?=some (some o)->o.ins (G+n+news.length)=true:=by
   intro cs;induction cs with
   |nil=>intro os _ h;exact h
   |cons c cs K=>
    intro os hi ah;simp only[apq,a!]at hi;refine K (os.set c.1 c.2) hi.2 λk o hk=>?_;by_cases e:c.1=k
    ·rw[List.getElem?_set]at hk;rw[if_pos e]at hk;split at hk
     ·have h2:=hi.1.2;cases N:c.2 with
      |none=>rw[N]at hk;cases hk
      |some x=>rw[N]at hk h2;cases hk;exact h2
     ·cases hk
    ·rw[I! e]at hk;exact ah k o hk
  have u:∀{a b:Nat},a<=b->∀v:V,v.ins a=true->v.ins b=true:=by
   intro a b ak v;have lt:∀i:Pos,i! i.nat a=true->i! i.nat b=true:=λi hi=>by simp only[d!] at*;omega
   induction v with
   |ptr i o=>exact lt i
   |slice i o m c=>exact lt i
   |map i=>exact lt i
   |func fn x y W X=>
    intro hi;simp only[V.ins,a!]at hi⊢;refine⟨?_,W hi.2.1,X hi.2.2⟩;have h1:=hi.1
    cases fn<;>first|rfl|(simp only[aho,d!]at h1⊢;omega)
   |iface t v K=>exact K
   |agg l K=>exact K
   |tuple l K=>exact K
   |cons x y W X=>
    intro hi;simp only[V.ins,a!]at hi⊢;exact⟨W hi.1,X hi.2⟩
   |_=>intro _;rfl
  have D:∀o:Ob,o.ins (G+n)=true->o.ins (G+n+news.length)=true:=by
   have hL:∀l:List V,insL (G+n) l=true->insL (G+n+news.length) l=true:=λl=>by
    induction l with
    |nil=>intro _;rfl
    |cons v l K=>intro h;simp only[insL,a!]at h⊢;exact⟨u (by omega) v h.1,K h.2⟩
   have hE:∀l:List (V×V),aaq (G+n) l=true->aaq (G+n+news.length) l=true:=λl=>by
    induction l with
    |nil=>intro _;rfl
    |cons v l K=>intro h;simp only[aaq,a!]at h⊢;exact⟨⟨u (by omega) _ h.1.1,u (by omega) _ h.1.2⟩,K h.2⟩
   intro o;cases o with
   |cells w cs=>exact hL cs
   |map es=>exact hE es
   |iter s n=>intro h;exact h
   |bytes cs=>exact hL cs
  have ai:=B cs (ks.map some) s4 (λk o hk=>by
   rw[j!]at hk;cases h:ks[k]? with
   |none=>rw[h]at hk;cases hk
   |some y=>rw[h]at hk;cases hk;exact D _ (Uw s3 h))
  have gl:Glued (tau G L) (mkO G (ks.map some)) (mkO G (patch (ks.map some) cs++news.map some)) h (mkF (ZY t L h cs) (news.map (Ob.ren t))):=by
   have C:∀o:Option Ob,(∀x,o=some x->x.ins (G+n+news.length)=true)->o.map (Ob.ren t)=o.map (Ob.ren (sig (tau G L) (mkO G (ks.map some)).next.nat h.next.nat)):=λo ho=>by
    cases o with
    |none=>rfl
    |some x=>show some _=some _;rw[Ob.sV (n:=G+n+news.length) (λi hi=>(I i hi).symm) (ho x rfl)]
   refine⟨?_,λi hi ag=>?_,λi hi ad=>?_,λj hj af=>?_⟩
   ·rw[Ur,FV,e!,d,O];omega
   ·have hG:G<=i.nat:=by
     rcases h! i.nat G with x|x
     ·exfalso;apply ag;rw[LQ,if_neg (by omega)]
     ·exact x
    rw[d]at hi;obtain⟨p,hp,e2⟩:=z i hG hi;have al:=(Z p (n! hp)).2;rw[e2,X8,FV,if_neg (by omega),Q.1 _ p hp,LQ,if_pos hG,w! (by rw[OB,e!,U];omega)];refine C _ λx J=>?_;refine ai (i.nat - G) x ?_;cases h:(patch (ks.map some) cs)[i.nat - G]? with
    |none=>rw[h]at J;cases J
    |some y=>rw[h]at J;cases y with
     |none=>cases J
     |some y=>cases J;rfl
   ·rw[d]at hi;rw[O]at ad;have aj:(sig (tau G L) (mkO G (ks.map some)).next.nat h.next.nat i).nat=h.next.nat+(i.nat - (G+n)):=by rw[d,al6 hi,Pos.fD];omega
    rw[X8,FV,e!,aj,if_pos (by omega),LQ,if_pos (by omega),E! (by rw[OB,e!,U];omega),OB,e!,U,
     j!,j!,show i.nat - G - n=h.next.nat+(i.nat - (G+n)) - h.next.nat by omega]
    have E:h.next.nat+(i.nat - (G+n)) - h.next.nat<news.length:=by omega
    rw[b! E];show some _=some _;have:=C (some news[h.next.nat+(i.nat - (G+n)) - h.next.nat]) λx J=>by cases J;exact Uw s5 (b! E)
    exact this
   ·have ae:j∉L:=λhm=>by
     obtain⟨k,hk,e2⟩:=List.mem_iff_getElem.1 hm;have N:L[k]?=some j:=by rw[b! hk,e2]
     refine hj (Pos.of (G+k)) (by rw[Pos.fD,d];omega) ?_ (TU (by rw[Pos.fD];omega) (by rw[Pos.fD,F!];exact N));rw[LQ,Pos.fD,if_pos (by omega),F!,j!,b! (by omega:k<ks.length)];simp
    rw[Ur,FV,e!]at af;rw[X8,FV,e!,if_neg (by omega)];exact Q.2 j ae
  rw[c1];rw[k1]at ha;exact avi hD S (by rw[d];exact s2) gl Y ha
 ·exact hF args h r h' M w cargs e Y ha
def aGO{ρ:Pos->Pos}(h:∀i,ρ i=i)(f:Fn):SG ρ f=f:=by
 cases f<;>first|rfl|(simp only[SG,h,Pos.fD])
def V.aDT{ρ:Pos->Pos}(h:∀i,ρ i=i)(v:V):v.ren ρ=v:=by
 induction v with
 |ptr i o=>simp only[V.ren,h]
 |slice i o n c=>simp only[V.ren,h]
 |map i=>simp only[V.ren,h]
 |func fn a b d e=>simp only[V.ren,aGO h,d,e]
 |iface t v f=>simp only[V.ren,f]
 |agg l f=>simp only[V.ren,f]
 |tuple l f=>simp only[V.ren,f]
 |cons a b d e=>simp only[V.ren,d,e]
 |_=>rfl
def zL(A:List V->Option V)(F:Fun):Fun:=λargs h=>match A args with
 |some r=>.ok r h
 |none=>F args h
def Bg{f:FuncId}{F:Fun}{A:List V->Option V}(l:aH P G f F)(t:∀args r,A args=some r->insL G args=true/\DJ G G [] [] r (F args (mkO G []))=true):aH P G f (zL A F):=by
 intro args h r h' M w cargs e c m;unfold zL at e;split at e
 ·rename_i B k;cases e;obtain⟨a1,a2⟩:=t _ _ k;have b:∀i,(mkO G []).get i=none:=λi=>by rw[LQ];split<;>rfl
  have hn:(mkO G []).next.nat=G:=by rw[Uo];rfl
  have u:=Does.comp l hn a2;have a:r.ins G=true:=by
   unfold DJ at a2;split at a2
   ·simp only[a!]at a2;exact a2.1.2
   ·cases a2
  have x:∀g,g<G->g<h.next.nat:=λg s=>by
   rcases h! g h.next.nat with q|q
   ·exact q
   ·obtain⟨n,hn⟩:=c.gl g s;rw[c.fresh (Pos.of g) (by rw[Pos.fD];exact q)]at hn;cases hn
  have S:Sub G (λi=>i) (mkO G []) h:=⟨λi j _ _ e=>e,λi hi=>by rw[hn]at hi;exact x _ hi,(λi o hi=>by rw[b]at hi;cases hi),λg s=>⟨by omega,rfl⟩⟩
  have gl:Glued (λi=>i) (mkO G []) (mkO G []) h h:=⟨by omega,λi _ d=>absurd (b i) d,λi y z=>by omega,λj _ _=>rfl⟩
  have p:=avi u S (by rw[hn];exact a1) gl (M:=M) (w:=w) (cargs:=cargs) c (by
   have:args.map (V.ren λi=>i)=args:=by
    conv=>rhs;rw[<-List.map_id args]
    exact k! λv _=>V.aDT (λ_=>rfl) v
   rw[this];exact m)
  have e2:r.ren (sig (λi=>i) (mkO G []).next.nat h.next.nat)=r:=by
   rw[V.sV (n:=G) (σ:=λi=>i) (λi hi=>aew (by rw[hn];exact hi)) a];exact V.aDT (λ_=>rfl) r
  rw[e2]at p;exact p
 ·exact l args h r h' M w cargs e c m
end
end Go.Vm
namespace Go.Ln
inductive Wds where
 |nil
 |cons (kind:Int) (text:List Nat) (kids rest:Wds)
 deriving DecidableEq
def Wds.len:Wds->Nat
 | .nil=>0
 | .cons _ _ _ r=>r.len+1
structure Wd where
 kind:Int
 text:List Nat
 kids:Wds
structure St where
 cur:List Nat
 rest:List (List Nat×List Nat)
def St.size(s:St):Nat:=s.cur.length+(s.rest.map λp=>p.2.length+1).sum
def Iz(c:Nat):Bool:=decide (33<=c/\c<=126/\c≠40/\c≠41/\c≠34/\c≠123)
def PW(s:List Nat):Option Nat:=
 if s= []\/s.length>10\/(s.head?=some 48/\s.length>1)\/¬(∀c∈s,48<=c/\c<=57) then none
 else if s.foldl (λn c=>n*10+(c - 48)) 0>4294967295 then none else some (s.foldl (λn c=>n*10+(c - 48)) 0)
structure Rd where
 texts:List (List Nat):= []
 lits:List (List Nat):= []
 long:Nat:=0
 wide:Nat:=0
 now:List Nat:= []
 want:Nat:=0
 lit:List Nat:= []
 literal:Bool:=false
 skip:Nat:=0
 line:Bool:=false
structure Got where
 kind:Int
 words:Wds
end Go.Ln
