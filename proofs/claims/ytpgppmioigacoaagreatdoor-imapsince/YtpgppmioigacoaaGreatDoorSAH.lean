/- Lemmas that the claim's last text uses. No conditions. -/
import Derived.Test.YtpgppmioigacoaaGreatDoorSAG
import Derived.KernelRfl
set_option linter.all false
open Bool renaming and_eq_true→a!,not_false→S!,not_true→T!
open List renaming getElem?_eq_getElem→b!,length_map→e!,getElem?_map→i!,map_congr_left→k!,getElem?_eq_some_iff→l!,mem_of_getElem?→n!,length_cons→p!,map_map→r!,getElem?_append_left→w!,length_eq_zero_iff→x!,getElem?_cons_succ→y!,drop_zero→z!,mem_cons→B!,length_append→C!,length_nil→D!,getElem?_append_right→E!,getElem?_set_ne→I!,pairwise_map→L!,length_drop→N!,drop_length→O!,length_set→P!
open Nat renaming ble_eq_true_of_le→c!,blt_eq→d!,lt_or_ge→g!,blt→h!,ble→j!,zero_add→o!,beq→q!,beq_refl→t!,eq_of_beq_eq_true→u!,le_refl→v!,zero_le→A!,add_sub_cancel_left→F!,sub_self→G!,le_of_ble_eq_true→H!,mul_le_mul_right→J!,lt_of_lt_of_le→K!,lt_trichotomy→M!,zero_ne_one→Q!,one_ne_zero→R!,sub_mul→U!,add_mul→V!
noncomputable section
open Go Go.Vm
namespace Go.Vm
section
variable{h h':Hp}{sz n bt:Nat}{v x:V}{cs:List V}{c:EqC}{el:TypeId}
theorem ad9(a b:List Nat):kS a b=decide (a=b):=by
 induction a generalizing b with
 |nil=>cases b<;>simp[kS]
 |cons x a e=>
  cases b with
  |nil=>simp[kS]
  |cons y b=>
   simp only[kS];by_cases d:x=y
   ·subst d;rw[t!,e];simp
   ·have:q! x y=false:=by cases hb:q! x y;rfl;exact absurd (u! hb) d
    rw[this];simp[d]
theorem aeu(a b:List Nat):aI .eql c (.str a) (.str b) h=.ok (.bool (decide (a=b))) h:=by
 show fU (kS a b) h=_;rw[gJ,ad9]
theorem aes(a b:List Nat):aI .neq c (.str a) (.str b) h=.ok (.bool (decide (a≠b))) h:=by
 show fU (not (kS a b)) h=_;rw[gJ,ad9];simp
theorem gu{a b:List Nat}(hl:a.length+b.length<4611686018427387904):aI .add c (.str a) (.str b) h=.ok (.str (a++b)) h:=by
 show(match h! (a.length+b.length) 4611686018427387904 with|true=>R.ok (V.str (a++b)) h|false=>.bad)=_;rw[show h! (a.length+b.length) 4611686018427387904=true by rw[d!];exact hl]
theorem aqf(s:List Nat):aZ 1 (.str s) h=.ok (.int .i64 (s.length:Int)) h:=by
 show R.ok (V.int .i64 (.ofNat (aFp s))) h=_;rw[ayh];rfl
theorem QB{s:List Nat}{m a:Nat}{k:IntKind}(d:s[m]?=some a):kG (.str s) (.int k (m:Int)) h=.ok (.int .u8 (a:Int)) h:=by
 show(match aFf m s with|some b=>R.ok (V.int .u8 (.ofNat b)) h|none=>.bad)=_;rw[aya,d];rfl
theorem aep{s:List Nat}{a:Nat}{k:IntKind}(b:s[0]?=some a):kG (.str s) (.int k 0) h=.ok (.int .u8 (a:Int)) h:=QB (m:=0) b
def bys(s:List Nat):List V:=s.map λb:Nat=>V.int .u8 (b:Int)
theorem Ba(s:List Nat):(bys s).length=s.length:=by simp[bys]
theorem aaA(s t:List Nat):bys (s++t)=bys s++bys t:=by simp[bys]
theorem axL(s:List Nat):u8s s=bys s:=by simp[u8s,bys]
theorem Z9:∀{s:List Nat},(∀b∈s,b<256)->sO (bys s)=some s
 | [],_=>rfl
 |b::s,a=>by
  show(match h! b 256,sO (bys s) with|true,some r=>some (b::r)|_,_=>none)=_;rw[show h! b 256=true by rw[d!];exact a b (by simp),Z9 λb hb=>a b (by simp[hb])]
theorem atc{s:List Nat}(hl:s.length<4611686018427387904):EN (.str s) h=.ok (.slice h.next 0 s.length (.un 1)) (h.new (.bytes (bys s))):=by
 show(match h! s.length 4611686018427387904 with|true=>R.ok (V.slice h.next 0 s.length (.un 1)) (h.new (.bytes (u8s s)))|false=>.bad)=_;rw[show h! s.length 4611686018427387904=true by rw[d!];exact hl,axL]
structure Ch (S:Pos->Prop) (h h':Hp):Prop where
 next:h.next.nat<=h'.next.nat
 get:∀j:Pos,j.nat<h.next.nat->¬S j->h'.get j=h.get j
variable{S S':Pos->Prop}{g:Hp}
theorem Ch.refl(S:Pos->Prop)(h:Hp):Ch S h h:=⟨v! _,λ_ _ _=>rfl⟩
theorem Ch.trans(x:Ch S h g)(y:Ch S' g h')(d:∀j:Pos,j.nat<h.next.nat->S' j->S j):Ch S h h':=
 ⟨Nat.le_trans x.next y.next,λj a b=>(y.get j (K! a x.next) λq=>b (d j a q)).trans (x.get j a b)⟩
theorem Ch.mono(x:Ch S h h')(d:∀j:Pos,j.nat<h.next.nat->S j->S' j):Ch S' h h':=⟨x.next,λj a b=>x.get j a λq=>b (d j a q)⟩
theorem Ch.new(S:Pos->Prop)(h:Hp)(o:Ob):Ch S h (h.new o):=⟨by rw[bI];omega,λj a _=>new_ne h (by omega) o⟩
theorem Ch.put(h:Hp){i:Pos}(o:Option Ob)(hi:S i):Ch S h (h.put i o):=⟨v! _,λj b a=>RZ h (λe=>a (by rw[show j=i from Pos.yx e];exact hi)) o⟩
theorem Ch.aH(S:Pos->Prop)(n:Nat)(h:Hp):Ch S h (aH n h):=⟨by rw[xg];omega,λ_ _ _=>rfl⟩
theorem Sl.eY{b:Nat}(s:Sl b h sz v n cs){i:Pos}(hi:bC v=some i):i.nat<b:=by
 rcases s.is with⟨_,rfl|rfl⟩|⟨i',o,cp,wr,all,rfl,a,_⟩
 ·cases hi
 ·cases hi
 ·cases hi;exact a
theorem Sl.ch{b:Nat}(s:Sl b h sz v n cs)(x:Ch S h h')(hb:b<=h.next.nat)(e:∀i,bC v=some i->¬S i):Sl b h' sz v n cs:=⟨s.len,by
 rcases s.is with h0|⟨i,o,cp,wr,all,rfl,hi,d,a⟩
 ·exact .inl h0
 ·exact .inr ⟨i,o,cp,wr,all,rfl,hi,by rw[x.get i (by omega) (e i rfl)];exact d,a⟩⟩
theorem Ow.eY{b:Nat}(s:Ow b h el sz v n cs){i:Pos}(hi:bC v=some i):b<=i.nat/\i.nat<h.next.nat:=by
 rcases s.is with⟨_,rfl⟩|⟨i',rfl,hb,a,_,_⟩
 ·cases hi
 ·cases hi;exact⟨hb,a⟩
theorem Ow.ch{b:Nat}(s:Ow b h el sz v n cs)(x:Ch S h h')(d:∀i,bC v=some i->¬S i):Ow b h' el sz v n cs:=⟨s.len,by
 rcases s.is with h0|⟨i,rfl,hb,hi,f1,a⟩
 ·exact .inl h0
 ·exact .inr ⟨i,rfl,hb,K! hi x.next,f1,by rw[x.get i hi (d i rfl)];exact a⟩⟩
theorem Ow.cell{b:Nat}(s:Ow b h el sz v n cs):v.cells= [v]/\gW v=true:=by
 rcases s.is with⟨_,rfl⟩|⟨i,rfl,_⟩<;>exact⟨rfl,rfl⟩
theorem Sl.cell{b:Nat}(s:Sl b h sz v n cs):v.cells= [v]/\gW v=true:=by
 rcases s.is with⟨_,rfl|rfl⟩|⟨i,o,cp,wr,all,rfl,_⟩<;>exact⟨rfl,rfl⟩
theorem aLW{b m:Nat}{new:List V}(s:Ow 0 h el sz v n cs)(t:Sl b h sz x m new)(o:0<m)(a:(n+m)*bt<=140737488355328):
  ∃d h',bK el sz bt v x h=.ok d h'/\d=.slice h.next 0 (n+m) (.un sz)/\h'.next=h.next.succ/\Ow 0 h' el sz d (n+m) (cs++new)/\Ch (λj=>bC v=some j) h h':=by
 have hl:(cs++new).length=(n+m)*sz:=by rw[C!,s.len,t.len,V!]
 unfold bK;rw[t.src];cases m with
 |zero=>omega
 |succ m=>
  simp only[];rcases s.is with⟨rfl,rfl⟩|⟨i,rfl,-,hi,f1,l⟩
  ·have k:cs= []:=x!.1 (by rw[s.len];simp);subst k;simp only[];rw[lU (by rw[o!]at a;exact a)];refine⟨_,_,rfl,by rw[o!],rfl,⟨hl,.inr ⟨h.next,by rw[o!],A! _,by rw[bI];omega,false,dX _ _⟩⟩,Ch.new _ _ _⟩
  ·simp only[];rw[dL (wr:=.rw el f1) (all:=cs) (by rw[l];rfl)];have e:gQ (n*sz) (eP 0 cs)=some cs:=by rw[jb,z!,<-s.len,ad5]
   have f:eP (n*sz) (eP 0 cs)= []:=by rw[jb,jb,z!,<-s.len,O!]
   simp only[dF,e,f,t!,lU a];refine⟨_,_,rfl,rfl,rfl,⟨hl,.inr ⟨h.next,rfl,A! _,by rw[bI,jI];omega,false,dX (h.put i none) _⟩⟩,(Ch.put (S:=λj=>bC (.slice i 0 n (.un sz))=some j) h none rfl).trans (Ch.new (λ_=>False) _ _) λ_ _ q=>q.elim⟩
theorem ayG{new:List V}(s:Ow 0 h el sz v n cs)(a:new.length=sz)(l:(n+1)*bt<=140737488355328):
  ∃b h',bK el sz bt v (.slice h.next 0 1 (.kn 1)) (h.new (.cells (.rw el true) new))=.ok b h'/\b=.slice h.next.succ 0 (n+1) (.un sz)/\Ow 0 h' el sz b (n+1) (cs++new)/\Ch (λj=>bC v=some j) h h'/\h'.next.nat=h.next.nat+2:=by
 have d:=Ch.new (λj=>bC v=some j) h (.cells (.rw el true) new);have m:Ow 0 (h.new (.cells (.rw el true) new)) el sz v n cs:=s.ch (Ch.new (λ_=>False) h _) λ_ _ q=>q;have p:Sl (h.next.nat+1) (h.new (.cells (.rw el true) new)) sz (.slice h.next 0 1 (.kn 1)) 1 new:=⟨by rw[a];simp,.inr ⟨h.next,0,_,.rw el true,new,rfl,by omega,by rw[dX];rfl,λk _=>by rw[o!]⟩⟩
 obtain⟨b,h',e,e2,i,o,f⟩:=aLW (bt:=bt) m p (by omega) l;exact⟨b,h',e,e2,o,d.trans f λ_ _ q=>q,by rw[i,aFg,Pos.fG,Pos.fG]⟩
theorem ab1(i:Pos)(q:Nat):aP (.ptr i q) h=.ok (.ptr i q) h:=(rfl)
theorem asR(h:Hp)(o:Ob):Hp.put (aH 1 h) h.next (some o)=h.new o:=(rfl)
theorem CB{i:Pos}{wr:Wr}{l:List V}(a:h.get i=some (.cells wr l))(q:Nat):aF (.ptr i q) h=(match l[q]? with|some v=>R.ok v h|none=>.bad):=by
 show dQ h i (λ_ cs=>match JZ q cs with|some v=>R.ok v h|none=>.bad)=_;rw[dL (wr:=wr) (all:=l) (by rw[a];rfl),nS]
theorem Sj{y:V}:∀{q:Nat} {l:List V},q<l.length->jh q [y] l=some (l.set q y)
 |0,[],h=>absurd h (by simp)
 |0,a::t,_=>rfl
 |q+1,[],h=>absurd h (by simp)
 |q+1,a::t,h=>by
  show Option.casesOn (motive:=λ_=>Option (List V)) (jh q [y] t) none (λr=>some (a::r))=_;rw[Sj (q:=q) (l:=t) (by simpa using h)];rfl
theorem wP{i:Pos}{t:TypeId}{f:Bool}{l:List V}(b:h.get i=some (.cells (.rw t f) l)){sz q:Nat}{y:V}(d:gW y=true)(hl:q! y.cells.length sz=true):
  aQ sz (.ptr i q) y h=(match jh q y.cells l with|some a=>.ok V.undef (h.put i (some (.cells (.rw t f) a)))|none=>.bad):=by
 unfold aQ;show dQ h i _=_;rw[dL (wr:=.rw t f) (all:=l) (by rw[b];rfl),d,hl];rfl
theorem RU{i:Pos}{t:TypeId}{f:Bool}{l:List V}(b:h.get i=some (.cells (.rw t f) l)){q:Nat}{y:V}(a:y.cells= [y]/\gW y=true)(d:q<l.length):aQ 1 (.ptr i q) y h=.ok V.undef (h.put i (some (.cells (.rw t f) (l.set q y)))):=by
 rw[wP b a.2 (by rw[a.1];rfl),a.1];rw[Sj d]
end
section
variable{h h':Hp}{sz n b:Nat}{v:V}{cs:List V}
def yN(sz:Nat)(v:V):Prop:=∀i o n c,v=.slice i o n c->(match c with| .kn k=>n<=k| .un u=>u=sz)
theorem aFi{sz o l m k:Nat}(hl:l<=k)(a:k<=m):moved sz o l m=o+l*sz\/(moved sz o l m=o/\k=l):=by
 unfold moved;cases hb:q! m l with
 |true=>exact .inr ⟨rfl,by have:=u! hb;omega⟩
 |false=>exact .inl rfl
theorem Sl.cut(s:Sl b h sz v n cs)(J:yN sz v)(K:0<sz){lo hi:Nat}(B:lo<=hi)(I:hi<=n)(G:v≠ .aO/\v≠ .emp):
  ∃x,(∀h',als sz v (some (.int .i64 (lo:Int))) (some (.int .i64 (hi:Int))) none h'=.ok x h')/\Sl b h sz x (hi - lo) ((cs.drop (lo*sz)).take ((hi - lo)*sz))/\yN sz x/\∀i,bC x=some i->bC v=some i:=by
 have hl:=s.len;have a:((cs.drop (lo*sz)).take ((hi - lo)*sz)).length=(hi - lo)*sz:=by
  rw[List.length_take,N!,hl,<-U!];exact Nat.min_eq_left (J! _ (by omega))
 have d:∀(all:List V) (o:Nat),(∀k,k<n*sz->all[o+k]?=cs[k]?)->∀k,k<(hi - lo)*sz->all[o+lo*sz+k]?=((cs.drop (lo*sz)).take ((hi - lo)*sz))[k]?:=λall o t k H=>by
  rw[List.getElem?_take,if_pos H,List.getElem?_drop,Nat.add_assoc];apply t;have:lo*sz+(hi - lo)*sz<=n*sz:=by rw[<-V!];exact J! _ (by omega)
  omega
 rcases s.is with⟨_,h0|h0⟩|⟨i,o,c,wr,all,rfl,g,C,t⟩
 ·exact absurd h0 G.1
 ·exact absurd h0 G.2
 ·have f:=J i o n c rfl;cases c with
  |kn k=>
   have H:n<=k:=f;have e1:j! k k=true:=c! (v! _);have e2:j! hi k=true:=c! (by omega);have w:j! lo hi=true:=c! B;refine⟨.slice i (moved sz o lo k) (hi - lo) (.kn (k - lo)),λh'=>?_,⟨a,?_⟩,λi' o' E y e=>by cases e;show hi - lo<=k - lo;omega,λj p=>p⟩
   ·show(match j! k k,j! hi k,j! lo hi with
     |true,true,true=>fA (moved sz o lo k) λq=>fA (hi - lo) λn=>R.ok (V.slice i q n (.kn (k - lo))) h'
     |_,_,_=>.bad)=_
    rw[e1,e2,w];simp only[dF]
   ·refine .inr ⟨i,_,_,wr,all,rfl,g,C,λq r=>?_⟩;rcases aFi (sz:=sz) (o:=o) (m:=k) B (by omega) with e|⟨_,e⟩
    ·rw[e];exact d all o t q r
    ·rw[e,G!,Nat.zero_mul]at r;omega
  |un u=>
   have L:u=sz:=f;subst L;have e2:j! hi n=true:=c! I;have w:j! lo hi=true:=c! B;cases lo with
   |zero=>
    refine⟨.slice i o hi (.un u),λh'=>?_,⟨a,.inr ⟨i,o,.un u,wr,all,rfl,g,C,λq r=>?_⟩⟩,λi' o' E y e=>(by cases e;rfl),λj p=>p⟩
    ·show(match j! hi n,j! 0 hi,q! u u with
      |true,true,true=>R.ok (V.slice i o hi (.un u)) h'
      |_,_,_=>R.bad)=_
     rw[e2,w,t!]
    ·have:=d all o t q r;rw[show o+0*u+q=o+q by omega]at this;exact this
   |succ l=>
    have es:∀h',als u (.slice i o n (.un u)) (some (.int .i64 ((l+1:Nat):Int))) (some (.int .i64 (hi:Int))) none h'=(match h! (l+1) n with
      |true=>fA (o+(l+1)*u) λq=>fA (hi - (l+1)) λn=>R.ok (V.slice i q n (.un u)) h'
      |false=>.ok .emp h'):=λh'=>by
     show(match j! hi n,j! (l+1) hi,q! u u with
      |true,true,true=>(match h! (l+1) n with
       |true=>fA (o+(l+1)*u) λq=>fA (hi - (l+1)) λn=>R.ok (V.slice i q n (.un u)) h'
       |false=>.ok .emp h')
      |_,_,_=>R.bad)=_
     rw[e2,w,t!]
    by_cases D:l+1<n
    ·have z:h! (l+1) n=true:=by rw[d!];exact D
     refine⟨.slice i (o+(l+1)*u) (hi - (l+1)) (.un u),λh'=>by rw[es];simp only[z,dF],⟨a,.inr ⟨i,_,_,wr,all,rfl,g,C,λq r=>d all o t q r⟩⟩,λi' o' E y e=>(by cases e;rfl),λj p=>p⟩
    ·have z:h! (l+1) n=false:=by
      cases hb:h! (l+1) n with
      |false=>rfl
      |true=>rw[d!]at hb;omega
     have M:hi - (l+1)=0:=by omega
     exact⟨.emp,λh'=>by rw[es];simp only[z],⟨a,.inl ⟨M,.inr rfl⟩⟩,λi' o' E y e=>(by cases e),λj p=>(by cases p)⟩
theorem Sl.from(s:Sl b h sz v n cs)(k:yN sz v)(j:0<sz){lo:Nat}(p:lo<=n):
  ∃d,(∀h',eU sz v (some (.int .i64 (lo:Int))) none none h'=.ok d h')/\Sl b h sz d (n - lo) (cs.drop (lo*sz))/\yN sz d/\∀i,bC d=some i->bC v=some i:=by
 by_cases a:v=.aO\/v=.emp
 ·have r:n=0:=by
   rcases s.is with⟨h0,_⟩|⟨i,o,c,wr,all,e,_⟩
   ·exact h0
   ·rcases a with a|a<;>rw[a]at e<;>cases e
  subst r;have g:lo=0:=by omega
  subst g;have f:cs= []:=x!.1 (by rw[s.len];simp);subst f;exact⟨v,λh'=>by rcases a with rfl|rfl<;>rfl,by simpa using s,k,λ_ hi=>hi⟩
 ·obtain⟨d,e1,e2,l,m⟩:=s.cut k j (hi:=n) p (v! _) ⟨λq=>a (.inl q),λq=>a (.inr q)⟩;refine⟨d,λh'=>?_,?_,l,m⟩
  ·rw[<-e1 h'];rcases s.is with⟨_,h0⟩|⟨i,o,c,wr,all,rfl,_⟩
   ·exact absurd h0 a
   ·rfl
  ·have hl:(cs.drop (lo*sz)).length<=(n - lo)*sz:=by rw[N!,s.len,<-U!];exact v! _
   rw[List.take_of_length_le hl]at e2;exact e2
end
section
variable{h:Hp}{el:TypeId}{bt:Nat}{c:EqC}
theorem wrap_u8{n:Nat}(a:n<256):IntKind.u8.wrap (n:Int)=(n:Int):=by
 simp[IntKind.wrap,IntKind.signed,IntKind.bits];omega
theorem aCw{a b:Nat}(d:a+b<256):aI .add c (.int .u8 (a:Int)) (.int .u8 (b:Int)) h=.ok (.int .u8 ((a+b:Nat):Int)) h:=by
 show jd .u8 (wI .u8 ((a:Int)+(b:Int))) h=_;rw[zF,show(a:Int)+(b:Int)=((a+b:Nat):Int) by omega,wrap_u8 d,iq]
theorem aLX{p:Pos}{n k:Nat}{t:TypeId}{f:Bool}{pre post:List V}{x y:V}(d:h.get p=some (.cells (.rw t f) (pre++x::post)))(e:pre.length=k)(g:k<n)(i:p.nat<h.next.nat):
  bK el 1 bt (.slice p 0 k (.kn n)) (.slice h.next 0 1 (.kn 1)) (h.new (.cells (.rw el true) [y]))=.ok (.slice p 0 (k+1) (.kn n)) ((h.new (.cells (.rw el true) [y])).put p (some (.cells (.rw t f) (pre++y::post)))):=by
 have b:(h.new (.cells (.rw el true) [y])).get p=some (.cells (.rw t f) (pre++x::post)):=by rw[new_ne h (by omega)];exact d
 unfold bK;have a:∀f:Nat->List V->R V,wK 1 (.slice h.next 0 1 (.kn 1)) (h.new (.cells (.rw el true) [y])) f=f 1 [y]:=λf=>by
  show dQ _ _ _=_;rw[dL (wr:=.rw el true) (all:= [y]) (by rw[dX];rfl)];rfl
 rw[a];simp only[];rw[dL (wr:=.rw t f) (all:=pre++x::post) (by rw[b];rfl)];simp only[dF,o!,Nat.mul_one];rw[c! (show k+1<=n by omega),Sj (by simp;omega)];simp only[];rw[show(pre++x::post).set k y=pre++y::post by rw[<-e];simp]
theorem aCa(n:Nat)(z:V):(times n [z]).length=n:=by
 induction n with
 |zero=>rfl
 |succ n a=>
  show(z::times n [z]).length=n+1;simp[a]
theorem atg{z:V}{n:Nat}(a:n*bt<=140737488355328):wR el bt [z] (.int .i64 0) (.int .i64 (n:Int)) h=.ok (.slice h.next 0 0 (.kn n)) (h.new (.cells (.rw el true) (times n [z]))):=by
 show(match j! 0 n,j! (Nat.mul n bt) 140737488355328 with
  |true,true=>R.ok (V.slice h.next 0 0 (.kn n)) (h.new (.cells (.rw el true) (times n [z])))
  |_,_=>.bad)=_
 rw[c! (A! n),show j! (Nat.mul n bt) 140737488355328=true from c! a]
def Oz(c:Nat):Nat:=if 65<=c/\c<=90 then c+32 else c
def foldM(s:List Nat):List Nat:=s.map Oz
theorem aHQ{c:Nat}(h:c<256):Oz c<256:=by unfold Oz;split<;>omega
theorem aFB{s:List Nat}(h:∀c∈s,c<256):∀c∈foldM s,c<256:=λc a=>by
 obtain⟨d,hd,rfl⟩:=List.mem_map.1 a;exact aHQ (h d hd)
theorem awS{p:Pos}{n:Nat}{t:TypeId}{f:Bool}{s:List Nat}{rest:List V}(a:h.get p=some (.cells (.rw t f) (bys s++rest)))(e:∀b∈s,b<256):zJ (.slice p 0 s.length (.kn n)) h=.ok (.str s) h:=by
 show dQ h p (λ_ cs=>(match gQ s.length (eP 0 cs) with
  |some l=>(match sO l with|some s=>R.ok (V.str s) h|none=>.bad)
  |none=>.bad))=_
 rw[dL (wr:=.rw t f) (all:=bys s++rest) (by rw[a];rfl),qw (cs:=bys s) (λk d=>by rw[o!,w! (by rw[Ba];exact d)]) (Ba s)];simp only[];rw[Z9 e]
end
section
variable{h h':Hp}{el:TypeId}{bt:Nat}{c:EqC}{P:Program}
theorem fD(n:Nat)(i:Pos)(q:Nat):aI .eql (.ptr n) (.ptr i q) .bY h=.ok (.bool false) h:=(rfl)
theorem awy(n:Nat)(i:Pos)(q:Nat):aI .neq (.ptr n) (.ptr i q) .bY h=.ok (.bool true) h:=(rfl)
theorem ahL(n:Nat):aI .eql (.ptr n) .bY .bY h=.ok (.bool true) h:=(rfl)
theorem asX{n:Nat}(a:q! n 0=false)(i:Pos)(q:Nat):aI .neq (.ptr n) (.ptr i q) (.ptr i q) h=.ok (.bool false) h:=by
 show(match q! n 0,i.eq i with|false,true=>fU (not (q! q q)) h|_,_=>.bad)=_;rw[a,Pos.eq_self,t!];rfl
theorem aHM{i:Pos}{wr:Wr}{l:List V}{q:Nat}{v:V}(a:h.get i=some (.cells wr l))(b:l[q]?=some v):aos (.ptr i q) h=.ok (.ptr i q) h:=by
 show dQ h i (λ_ cs=>(match JZ q cs with|some _=>R.ok (V.ptr i q) h|none=>.bad))=_;rw[dL (wr:=wr) (all:=l) (by rw[a];rfl),nS,b]
theorem aCU{i:Pos}{t u:TypeId}{l:List V}{q:Nat}{v:V}(a:h.get i=some (.cells (.rw t true) l))(b:l[q]?=some v)(hl:liesAt P P.depth t (l.length / P.cellsOf t) q u 1=true):X7 P u (.ptr i q) h=.ok (.ptr i q) h:=by
 show dQ h i (λwr cs=>(match wr with
  | .rw t full=>(match full,JZ q cs,liesAt P P.depth t (cs.length / P.cellsOf t) q u 1 with
   |true,some _,true=>R.ok (V.ptr i q) h
   |_,_,_=>.bad)
  | .ro=>.bad))=_
 rw[dL (wr:=.rw t true) (all:=l) (by rw[a];rfl)];simp only[nS,b,hl]
theorem aIi{b n:Nat}{v:V}{s t:List Nat}(o:Ow b h el 1 v n (bys s))(hb:b<=h.next.nat)(e:(n+t.length)*bt<=140737488355328):
  ∃k h',bK el 1 bt v (.str t) h=.ok k h'/\Ow b h' el 1 k (n+t.length) (bys (s++t))/\Ch (λj=>bC v=some j) h h'/\(∀j,bC k=some j->bC v=some j\/h.next.nat<=j.nat):=by
 have hl:(bys (s++t)).length=(n+t.length)*1:=by rw[aaA,C!,o.len,Ba];omega
 have d:∀f:Nat->List V->R V,wK 1 (.str t) h f=f t.length (bys t):=λf=>by
  show(match q! 1 1 with|true=>f t.length (u8s t)|false=>.bad)=_;rw[axL]
 unfold bK;rw[d];cases t with
 |nil=>
  simp only[D!,List.append_nil] at*;rcases o.is with⟨rfl,rfl⟩|⟨i,rfl,g,hi,f1,l⟩
  ·exact⟨_,_,rfl,o,Ch.refl _ _,λj a=>(by cases a)⟩
  ·exact⟨_,_,rfl,o,Ch.refl _ _,λj a=>.inl a⟩
 |cons c t=>
  simp only[p!];rcases o.is with⟨rfl,rfl⟩|⟨i,rfl,g,hi,f1,l⟩
  ·have u:s= []:=by have:=o.len;rw[Ba]at this;exact x!.1 (by omega)
   subst u;simp only[];rw[lU (by rw[p!,o!]at e;exact e)];refine⟨_,_,rfl,⟨hl,.inr ⟨h.next,by simp,hb,by rw[bI];omega,false,?_⟩⟩,Ch.new _ _ _,λj a=>by cases a;exact .inr (v! _)⟩;rw[List.nil_append];exact dX _ _
  ·simp only[];rw[dL (wr:=.rw el f1) (all:=bys s) (by rw[l];rfl)];have m:(bys s).length=n*1:=o.len;have p:gQ (n*1) (eP 0 (bys s))=some (bys s):=by rw[jb,z!,<-m,ad5]
   have r:eP (n*1) (eP 0 (bys s))= []:=by rw[jb,jb,z!,<-m,O!]
   simp only[dF,p,r,t!];rw[lU (by rw[p!]at e;exact e)];refine⟨_,_,rfl,⟨hl,.inr ⟨h.next,rfl,hb,by rw[bI,jI];omega,false,?_⟩⟩,(Ch.put (S:=λj=>bC (.slice i 0 n (.un 1))=some j) h none rfl).trans (Ch.new (λ_=>False) _ _) λ_ _ q=>q.elim,λj a=>by cases a;exact .inr (v! _)⟩;rw[aaA];exact dX (h.put i none) _
theorem aso{i:Pos}{t:TypeId}{f:Bool}{s:List Nat}(e:h.get i=some (.cells (.rw t f) (bys s)))(g:∀b∈s,b<256)(hl:s.length<=9223372036854775807)(h0:s≠ []):
  Gi t (.ptr i 0) (.int .i64 (s.length:Int)) h=.ok (.str s) (h.put i (some (.cells .ro (bys s)))):=by
 obtain⟨m,d⟩:∃m,s.length=m+1:=by
  cases s with
  |nil=>exact absurd rfl h0
  |cons a l=>exact⟨l.length,rfl⟩
 rw[d];show dQ h i (λwr cs=>(match wr with
   | .rw t' _=>(match q! t' t with
    |true=>(match gQ (m+1) (eP 0 cs) with
     |some l=>(match sO l with
      |some s=>(match j! s.length 9223372036854775807 with|true=>R.ok (V.str s) (h.put i (some (.cells .ro cs)))|false=>.bad)
      |none=>.bad)
     |none=>.bad)
    |false=>.bad)
   | .ro=>.bad))=_
 rw[dL (wr:=.rw t f) (all:=bys s) (by rw[e];rfl)];simp only[t!];rw[qw (cs:=bys s) (λk j=>by rw[o!]) (by rw[Ba,d])];simp only[];rw[Z9 g];simp only[];rw[c! hl]
end
section
variable{h:Hp}{el:TypeId}{c:EqC}
theorem atp{a b:Int}(d: -9223372036854775808<=a*b)(e:a*b<9223372036854775808):aI .mul c (.int .i64 a) (.int .i64 b) h=.ok (.int .i64 (a*b)) h:=by
 show jd .i64 (wrap64 (a*b)) h=_;rw[wrap64_in d e,iq]
theorem atn{a b:Int}(h0:b≠0)(d: -9223372036854775808<=a.tdiv b)(e:a.tdiv b<9223372036854775808):aI .quo c (.int .i64 a) (.int .i64 b) h=.ok (.int .i64 (a.tdiv b)) h:=by
 show(match nJ b 0 with|true=>R.bad|false=>jd .i64 (wrap64 (Int.tdiv a b)) h)=_;rw[zL,decide_eq_false h0];simp only[];rw[wrap64_in d e,iq]
theorem aer:Wq .aO h=.ok (.int .i64 0) h:=(rfl)
theorem UY:aZ 2 .aO h=.ok (.int .i64 0) h:=(rfl)
theorem aCx{n:Nat}(a:n<=140737488355328):aez el [.int .i64 (n:Int)] h=.ok (.slice h.next 0 n (.un 1)) (h.new (.cells (.rw el false) [])):=by
 show(match j! n 140737488355328 with
     |true=>R.ok (V.slice h.next 0 n (.un 1)) (h.new (.cells (.rw el false) []))
     |false=>.bad)=_
 rw[c! a]
theorem aAE(p:Pos)(n:Nat):eU 1 (.slice p 0 n (.un 1)) none (some (.int .i64 0)) none h=.ok (.slice p 0 0 (.un 1)) h:=by
 show(match j! 0 n,j! 0 0,q! 1 1 with
  |true,true,true=>R.ok (V.slice p 0 0 (.un 1)) h
  |_,_,_=>R.bad)=_
 rw[c! (A! n)]
theorem aAJ(p:Pos)(o n:Nat)(k:Cap):alM 1 (.slice p o n k) .aO h=.ok (.int .i64 0) h:=by
 show(match j! 0 n with|true=>R.ok (V.int .i64 (.ofNat 0)) h|false=>.bad)=_;rw[c! (A! n)];rfl
theorem ayB{m:Hp->R V}{v:V}{k:Out}{g a g' b:Hp}(f:m g=.ok v g')(d:m a=.ok v b)(e:eqV v v=true):chk m v k 2 [g,a]=k:=by
 show(match m g with| .ok i _=>(match eqV v i with|true=>chk m v k 1 [a]|false=>.bad)| .bad=>.bad)=_;rw[f];simp only[e];exact Kz d e
def dV(sep:List Nat):List (List Nat)->List Nat
 | []=> []
 |a::r=>(match r with| []=>a|_::_=>a++sep++dV sep r)
def yM(sep:List Nat)(l:List (List Nat)):List Nat:=(l.map λa=>sep++a).flatten
theorem AV(sep a:List Nat):∀r,dV sep (a::r)=a++yM sep r
 | []=>by simp[dV,yM]
 |b::r=>by
  show a++sep++dV sep (b::r)=_;rw[AV sep b r];simp[yM]
theorem alX(sep:List Nat)(l:List (List Nat))(a:List Nat):yM sep (l++ [a])=yM sep l++(sep++a):=by simp[yM]
def iU(l:List (List Nat)):Nat:=(l.map List.length).sum
theorem aAm(l:List (List Nat))(a:List Nat):iU (l++ [a])=iU l+a.length:=by simp[iU]
theorem alu(l:List (List Nat))(k:Nat):iU (l.take k)<=iU l:=by
 have e:iU l=iU (l.take k)+iU (l.drop k):=by
  unfold iU;rw[<-List.sum_append,<-List.map_append,List.take_append_drop]
 omega
theorem aeE(sep:List Nat)(l:List (List Nat)):(yM sep l).length=iU l+sep.length*l.length:=by
 induction l with
 |nil=>simp[yM,iU]
 |cons a l b=>simp[yM,iU]at b⊢;rw[b,Nat.mul_succ];omega
end
theorem vmL:type_of% @XJ/\type_of% @MG/\type_of% @ap3/\type_of% @asr/\type_of% @akd/\type_of% @aoW/\type_of% @sS/\type_of% @akk/\type_of% @atT/\type_of% @aqn/\type_of% @aoF/\type_of% @aoG/\type_of% @ayE/\type_of% @auv/\type_of% @auu/\type_of% @aoX/\type_of% @Q!/\type_of% @R!/\type_of% @SE/\type_of% @Z5/\type_of% @atv/\type_of% @ato/\type_of% @atq/\type_of% @atr/\type_of% @att/\type_of% @atu/\type_of% @ax1/\type_of% @alH/\type_of% @ahK/\type_of% @alL/\type_of% @alK/\type_of% @alJ/\type_of% @ax3/\type_of% @ax4/\type_of% @ab2/\type_of% @Sz/\type_of% @atm/\type_of% @XT/\type_of% @SG/\type_of% @aev/\type_of% @sF/\type_of% @ati/\type_of% @ab3/\type_of% @akl/\type_of% @ayC/\type_of% @amb/\type_of% @ab7/\type_of% @XR/\type_of% @aqz/\type_of% @T!/\type_of% @S!:=
 ⟨@XJ,@MG,@ap3,@asr,@akd,@aoW,@sS,@akk,@atT,@aqn,@aoF,@aoG,@ayE,@auv,@auu,@aoX,@Q!,@R!,@SE,@Z5,@atv,@ato,@atq,@atr,@att,@atu,@ax1,@alH,@ahK,@alL,@alK,@alJ,@ax3,@ax4,@ab2,@Sz,@atm,@XT,@SG,@aev,@sF,@ati,@ab3,@akl,@ayC,@amb,@ab7,@XR,@aqz,@T!,@S!⟩
theorem vsL:type_of% @aeu/\type_of% @aes/\type_of% @aqf/\type_of% @ab1/\type_of% @o!/\type_of% @asR:=
 ⟨@aeu,@aes,@aqf,@ab1,@o!,@asR⟩
theorem vpL:(∀{α:Type} (a b:α),(some a).getD b=a)/\(∀{α:Type} (b:α),(none:Option α).getD b=b)/\(∀{α:Type} (a:α),(some a).isSome=true)/\(∀{α:Type},(none:Option α).isSome=false):=
 ⟨λ_ _=>rfl,λ_=>rfl,λ_=>rfl,rfl⟩
theorem vqL:(∀{α:Type} (a b:α),(a≠b)=¬(a=b))/\(∀h:Decidable True,@decide True h=true)/\(∀h:Decidable False,@decide False h=false)/\((¬True)=False)/\((¬False)=True):=
 ⟨λ_ _=>rfl,λh=>decide_true h,λh=>decide_false h,propext not_true,not_false_eq_true⟩
section
variable{P:Program}{G:Nat}
abbrev Rg:Type:=F->Hp->Out
theorem kR{p:Prop}(h:p:=by kernel_rfl):p:=h
def ge(n:Nat)(fr:F):Option V:=T.get fr (Pos.of n)
def ss(n:Nat)(v:V)(fr:F):F:=T.set (some v) (Pos.of n) fr
def rM(d s:Nat)(fr:F)(h:Hp):Out:=gtO (T.get fr (Pos.of s)) λv=>.nor (T.set (some v) (Pos.of d) fr) h
def rC(d:Nat)(c:V)(fr:F)(h:Hp):Out:=.nor (T.set (some c) (Pos.of d) fr) h
def r1(d s:Nat)(f:V->Hp->R V)(fr:F)(h:Hp):Out:=gtO (T.get fr (Pos.of s)) λv=>aA (f v h) λw g=>.nor (T.set (some w) (Pos.of d) fr) g
def r2(d a b:Nat)(f:V->V->Hp->R V)(fr:F)(h:Hp):Out:=gtO (T.get fr (Pos.of a)) λu=>gtO (T.get fr (Pos.of b)) λv=>aA (f u v h) λw g=>.nor (T.set (some w) (Pos.of d) fr) g
theorem vzL:(∀n fr,ge n fr=T.get fr (Pos.of n))/\(∀n v fr,ss n v fr=T.set (some v) (Pos.of n) fr)/\(∀d s fr h,rM d s fr h=gtO (T.get fr (Pos.of s)) λv=>.nor (T.set (some v) (Pos.of d) fr) h)/\
  (∀d c fr h,rC d c fr h=.nor (T.set (some c) (Pos.of d) fr) h)/\(∀d s f fr h,r1 d s f fr h=gtO (T.get fr (Pos.of s)) λv=>aA (f v h) λw g=>.nor (T.set (some w) (Pos.of d) fr) g)/\
  (∀d a b f fr h,r2 d a b f fr h=gtO (T.get fr (Pos.of a)) λu=>gtO (T.get fr (Pos.of b)) λv=>aA (f u v h) λw g=>.nor (T.set (some w) (Pos.of d) fr) g):=
 ⟨λ_ _=>rfl,λ_ _ _=>rfl,λ_ _ _ _=>rfl,λ_ _ _ _=>rfl,λ_ _ _ _ _=>rfl,λ_ _ _ _ _ _=>rfl⟩
def kp(l:List Nat)(t:Nat):Bool:=J7 t l
def rF:List (FuncId×Fun)->FuncId->Option Fun
 | [],_=>none
 |(g,F)::l,f=>(match q! f g with|true=>some F|false=>rF l f)
def aOS:Nat->Cls
 |0=>.pure
 |1=>.alloc
 |2=>.heavy
 |n+3=>.read n
def gm:List Nat->Plan
 | []=> []
 |n::l=>(n / 16,aOS (n % 16))::gm l
def plL:List (Nat×List Nat×Plan)->bZ
 | [],_=>none
 |(g,m,p)::l,f=>(match q! f g with|true=>some (m,p)|false=>plL l f)
theorem bF:∀f F,rF [] f=some F->aG P G f F:=λ_ _ h=>by cases h
theorem aV{g:FuncId}{F:Fun}{l:List (FuncId×Fun)}(b:aG P G g F)(c:∀f F,rF l f=some F->aG P G f F):∀f a,rF ((g,F)::l) f=some a->aG P G f a:=aS b c
theorem vvA:type_of% vmL/\type_of% vpL/\type_of% vsL/\type_of% vqL/\type_of% vzL:=⟨vmL,vpL,vsL,vqL,vzL⟩
theorem qS0{p:Prop}(h:p:=by simp only[vvA,seval]):p:=h
theorem qS2{p q:Prop}(f:q)(h:q->p:=by intro f;simp only[vvA,seval,f]):p:=h f
theorem qS1{p:Prop}(h:p:=by simp only[vvA,seval]<;>rfl):p:=h
theorem qS3{p q:Prop}(f:q)(h:q->p:=by intro f;simp only[vvA,seval,f]<;>rfl):p:=h f
end
section
variable{P:Program}{G N:Nat}{keep:Nat->Bool}{e:FuncId->Option Fun}
def gone(c:List Nat):Code->Bool
 | .region id _ _=>J7 id c
 | .seq a _=>gone c a
 | .cond _ a b=>gone c a&&gone c b
 | .block _ b=>gone c b
 | .loop b=>gone c b
 | .scope b=>gone c b
 |_=>false
def Ej(f:List Nat):Code->Code
 | .region id ops d=>(match J7 id f with|true=>.refuse "" |false=>.region id ops d)
 | .seq a b=>(match gone f a with|true=>.refuse "" |false=>.seq (Ej f a) (Ej f b))
 | .cond c a b=>(match gone f a&&gone f b with|true=>.refuse "" |false=>.cond c (Ej f a) (Ej f b))
 | .block id b=>(match gone f b with|true=>.refuse "" |false=>.block id (Ej f b))
 | .loop b=>(match gone f b with|true=>.refuse "" |false=>.loop (Ej f b))
 | .scope b=>(match gone f b with|true=>.refuse "" |false=>.scope (Ej f b))
 |c=>c
theorem ET(k:P.follows .mixedOrders=true)(j:∀f F,e f=some F->aG P G f F)(l:List Nat)(pl:bZ)(lf:Nat):(c:Code)->codeOk G N c=true->eF P keep G N c (lZ P G N keep e pl lf (Ej l c))
 | .skip,h=>dZ k j pl lf _ h
 | .label _,h=>dZ k j pl lf _ h
 | .region id ops d,h=>by
  unfold Ej;split
  ·exact .bad
  ·exact dZ k j pl lf _ h
 | .seq a b,i=>by
  unfold Ej;split
  ·exact .bad
  ·simp only[codeOk,a!]at i;exact .seq (ET k j l pl lf a i.1) (ET k j l pl lf b i.2)
 | .cond c a b,i=>by
  unfold Ej;split
  ·exact .bad
  ·simp only[codeOk,a!]at i;simp only[lZ,ayy];refine .cond (λg m=>?_) (ET k j l pl lf a i.2.1) (ET k j l pl lf b i.2.2);subst m;simpa[d!]using i.1
 | .block id b,i=>by
  unfold Ej;split
  ·exact .bad
  ·exact .block (ET k j l pl lf b i)
 | .loop b,i=>by
  unfold Ej;split
  ·exact .bad
  ·exact .loop (ET k j l pl lf b i) lf
 | .scope b,i=>by
  unfold Ej;split
  ·exact .bad
  ·exact .scope (ET k j l pl lf b i)
 | .exit _,h=>dZ k j pl lf _ h
 | .ret,h=>dZ k j pl lf _ h
 | .goto _,_=>.bad
 | .rangeFunc ..,_=>.bad
 | .refuse _,_=>.bad
def zz:F->Hp->Out:=λ_ _=>.bad
theorem prX(i:P.follows .mixedOrders=true){f:FuncId}{fn:Func}{N:Nat}{c:List ResultVar}{ks:List Nat}{D:F->Hp->Out}{l:List (FuncId×Fun)}(b:List Nat)(pl:List (Nat×List Nat×Plan))(g:∀f F,rF l f=some F->aG P G f F)(h:P.funcs[f]?=some fn)
  (a:ar5 G fn=true:=by kernel_rfl) (d:lZ P G N (kp ks) (rF l) (plL pl) lf (Ej b (codeOf fn))=D:=by kernel_rfl) (j:(fn.ntmps,fn.results.toList)=(N,c):=by kernel_rfl) (hb:fn.body=some (codeOf fn):=by kernel_rfl):aG P G f (bD P (kp ks) N c D):=by
 cases j;unfold ar5 at a;rw[hb]at a;simp only[a!,Bool.not_eq_true']at a;rw[<-d];exact ayD h a.2 hb (ET i g b (plL pl) lf _ a.1)
end
section
variable{P:Program}{G:Nat}
def QE(ρ:Pos->Pos):Fn->Fn
 | .yield k=>.yield (ρ (Pos.of k)).nat
 | .func f=>.func f
 | .method n=>.method n
 | .methodOf t n=>.methodOf t n
 | .via t p f b=>.via t p f b
def agX(n:Nat):Fn->Bool
 | .yield k=>h! k n
 | .func _=>true
 | .method _=>true
 | .methodOf _ _=>true
 | .via _ _ _ _=>true
def V.ren(ρ:Pos->Pos):V->V
 | .bool b=>.bool b
 | .int k n=>.int k n
 | .str s=>.str s
 | .ptr i o=>.ptr (ρ i) o
 | .bY=>.bY
 | .slice i o n c=>.slice (ρ i) o n c
 | .aO=>.aO
 | .emp=>.emp
 | .map i=>.map (ρ i)
 | .jW=>.jW
 | .func fn a b=>.func (QE ρ fn) (a.ren ρ) (b.ren ρ)
 | .iH=>.iH
 | .iface t v=>.iface t (v.ren ρ)
 | .oH=>.oH
 | .agg l=>.agg (l.ren ρ)
 | .tuple l=>.tuple (l.ren ρ)
 | .nil=>.nil
 | .cons a b=>.cons (a.ren ρ) (b.ren ρ)
def V.ins(n:Nat):V->Bool
 | .bool _=>true
 | .int _ _=>true
 | .str _=>true
 | .ptr i _=>h! i.nat n
 | .bY=>true
 | .slice i _ _ _=>h! i.nat n
 | .aO=>true
 | .emp=>true
 | .map i=>h! i.nat n
 | .jW=>true
 | .func fn a b=>agX n fn&&(a.ins n&&b.ins n)
 | .iH=>true
 | .iface _ v=>v.ins n
 | .oH=>true
 | .agg l=>l.ins n
 | .tuple l=>l.ins n
 | .nil=>true
 | .cons a b=>a.ins n&&b.ins n
def Ob.ren(ρ:Pos->Pos):Ob->Ob
 | .cells w cs=>.cells w (cs.map (V.ren ρ))
 | .map es=>.map (es.map λp=>(p.1.ren ρ,p.2.ren ρ))
 | .iter s n=>.iter s n
 | .bytes cs=>.bytes (cs.map (V.ren ρ))
def insL(n:Nat):List V->Bool
 | []=>true
 |v::l=>v.ins n&&insL n l
def aal(n:Nat):List (V×V)->Bool
 | []=>true
 |p::l=>(p.1.ins n&&p.2.ins n)&&aal n l
def Ob.ins(n:Nat):Ob->Bool
 | .cells _ cs=>insL n cs
 | .map es=>aal n es
 | .iter _ _=>true
 | .bytes cs=>insL n cs
theorem SL{n:Nat}:∀{l:List V},insL n l=true->∀v∈l,v.ins n=true
 | [],_,v,h=>by cases h
 |u::l,h,v,a=>by
  simp only[insL,a!]at h;rcases B!.1 a with rfl|a
  ·exact h.1
  ·exact SL h.2 v a
theorem V.nR(ρ:Pos->Pos)(v:V):(v.ren ρ).isRow=v.isRow:=by cases v<;>rfl
theorem Ob.AP(ρ:Pos->Pos)(o:Ob):(o.ren ρ).own=o.own:=by cases o<;>rfl
theorem aqm(ρ:Pos->Pos)(x y:V):jg (x.ren ρ) (y.ren ρ)=jg x y:=by cases x<;>cases y<;>rfl
variable{M N:Mp}{ρ:Pos->Pos}
theorem Bh.ren(c:∀i L,N i=some L->M (ρ i)=some L){f g:Fn}(h:Bh N f g):Bh M (QE ρ f) g:=by
 cases f<;>first|exact h|(obtain⟨L,a,b⟩:=h;exact⟨L,by rw[Pos.MN];exact c _ _ a,b⟩)
theorem Bh.nY{n:Nat}(c:∀i,i.nat<n->∀L,M (ρ i)=some L->N i=some L){f g:Fn}(hi:agX n f=true)(h:Bh M (QE ρ f) g):Bh N f g:=by
 cases f<;>first|exact h|(obtain⟨L,a,b⟩:=h;exact⟨L,c _ (by rw[Pos.gV];simpa[agX,d!]using hi) L (by rw[Pos.MN]at a;exact a),b⟩)
theorem Rep.ren(r:∀i L,N i=some L->M (ρ i)=some L){v:V}:∀{l:List Value},Rep N v l->Rep M (v.ren ρ) l:=by
 induction v with
 |ptr i o=>rintro l ⟨L,h,e⟩;exact⟨L,r _ _ h,e⟩
 |slice i o n c=>rintro l ⟨L,k,h,s,e⟩;exact⟨L,k,r _ _ h,s,e⟩
 |map i=>rintro l ⟨L,h,e⟩;exact⟨L,r _ _ h,e⟩
 |func fn a b d j=>rintro l ⟨f,x,y,q,p,h,g,e⟩;exact⟨f,x,y,q.ren r,⟨by rw[V.nR];exact p.1,by rw[V.nR];exact p.2⟩,d h,j g,e⟩
 |iface t v m=>rintro l ⟨x,p,h,e⟩;exact⟨x,by rw[V.nR];exact p,m h,e⟩
 |agg a m=>rintro l ⟨x,p,h,e⟩;exact⟨x,by rw[V.nR];exact p,m h,e⟩
 |tuple a m=>rintro l ⟨x,p,h,e⟩;exact⟨x,by rw[V.nR];exact p,m h,e⟩
 |cons a b d j=>rintro l ⟨x,xs,q,h,p,g,e⟩;exact⟨x,xs,by rw[V.nR];exact q,d h,by rw[V.nR];exact p,j g,e⟩
 |_=>intro l h;exact h
theorem Rep.nY{n:Nat}(r:∀i,i.nat<n->∀L,M (ρ i)=some L->N i=some L){v:V}:∀{l:List Value},v.ins n=true->Rep M (v.ren ρ) l->Rep N v l:=by
 induction v with
 |ptr i o=>rintro l hi ⟨L,h,e⟩;exact⟨L,r _ (by simpa[V.ins,d!]using hi) _ h,e⟩
 |slice i o n c=>rintro l hi ⟨L,k,h,s,e⟩;exact⟨L,k,r _ (by simpa[V.ins,d!]using hi) _ h,s,e⟩
 |map i=>rintro l hi ⟨L,h,e⟩;exact⟨L,r _ (by simpa[V.ins,d!]using hi) _ h,e⟩
 |func fn a b d j=>
  rintro l hi ⟨f,x,y,q,p,h,g,e⟩;simp only[V.ins,a!]at hi;rw[V.nR,V.nR]at p;exact⟨f,x,y,q.nY r hi.1,p,d hi.2.1 h,j hi.2.2 g,e⟩
 |iface t v m=>rintro l hi ⟨x,p,h,e⟩;rw[V.nR]at p;exact⟨x,p,m hi h,e⟩
 |agg a m=>rintro l hi ⟨x,p,h,e⟩;rw[V.nR]at p;exact⟨x,p,m hi h,e⟩
 |tuple a m=>rintro l hi ⟨x,p,h,e⟩;rw[V.nR]at p;exact⟨x,p,m hi h,e⟩
 |cons a b d j=>
  rintro l hi ⟨x,xs,q,h,p,g,e⟩;simp only[V.ins,a!]at hi;rw[V.nR]at p q;exact⟨x,xs,q,d hi.1 h,p,j hi.2 g,e⟩
 |_=>intro l _ h;exact h
theorem Rp.ren(a:∀i L,N i=some L->M (ρ i)=some L){v:V}{c:Value}(h:Rp N v c):Rp M (v.ren ρ) c:=⟨by rw[V.nR];exact h.1,h.2.ren a⟩
theorem Rp.nY{n:Nat}(a:∀i,i.nat<n->∀L,M (ρ i)=some L->N i=some L){v:V}{c:Value}(hi:v.ins n=true)(h:Rp M (v.ren ρ) c):Rp N v c:=⟨by rw[<-V.nR ρ];exact h.1,h.2.nY a hi⟩
theorem bV.nY{n:Nat}(a:∀i,i.nat<n->∀L,M (ρ i)=some L->N i=some L):∀{vs:List V} {l:List Value},insL n vs=true->bV M (vs.map (V.ren ρ)) l->bV N vs l
 | [],_,_,h=>h
 |v::vs,_,hi,⟨x,xs,h,g,e⟩=>by
  simp only[insL,a!]at hi;exact⟨x,xs,h.nY a hi.1,bV.nY a hi.2 g,e⟩
theorem jJ.ren(a:∀i L,N i=some L->M (ρ i)=some L):∀{es:List (V×V)} {l:List MapEntry},jJ N es l->jJ M (es.map λp=>(p.1.ren ρ,p.2.ren ρ)) l
 | [],_,h=>h
 |_::_,_,⟨e,es,h,g,x⟩=>⟨e,es,⟨h.1.ren a,h.2.ren a⟩,jJ.ren a g,x⟩
theorem jJ.nY{n:Nat}(a:∀i,i.nat<n->∀L,M (ρ i)=some L->N i=some L):∀{es:List (V×V)} {l:List MapEntry},aal n es=true->jJ M (es.map λp=>(p.1.ren ρ,p.2.ren ρ)) l->jJ N es l
 | [],_,_,h=>h
 |p::ps,_,hi,⟨e,es,h,g,x⟩=>by
  simp only[aal,a!]at hi;exact⟨e,es,⟨h.1.nY a hi.1.1,h.2.nY a hi.1.2⟩,jJ.nY a hi.2 g,x⟩
theorem iJ.ren{es:List (V×V)}(h:iJ es):iJ (es.map λp=>(p.1.ren ρ,p.2.ren ρ)):=by
 unfold iJ at*;rw[r!,show((λx=>x.1)∘λp:V×V=>(p.1.ren ρ,p.2.ren ρ))=(V.ren ρ)∘(λx=>x.1) from rfl,<-r!,L!];exact h.imp λh=>by rw[aqm];exact h
theorem iJ.nY{es:List (V×V)}(h:iJ (es.map λp=>(p.1.ren ρ,p.2.ren ρ))):iJ es:=by
 unfold iJ at*;rw[r!,show((λx=>x.1)∘λp:V×V=>(p.1.ren ρ,p.2.ren ρ))=(V.ren ρ)∘(λx=>x.1) from rfl,<-r!,L!]at h;exact h.imp λh=>by rw[aqm]at h;exact h
theorem ayd{cs:List V}{k:Nat}{v:V}(h:(cs.map (V.ren ρ))[k]?=some v):∃u,cs[k]?=some u/\v=u.ren ρ:=by
 rw[i!]at h;cases a:cs[k]? with
 |none=>rw[a]at h;cases h
 |some u=>rw[a]at h;cases h;exact⟨u,rfl,rfl⟩
theorem get_map{cs:List V}{k:Nat}{v:V}(h:cs[k]?=some v):(cs.map (V.ren ρ))[k]?=some (v.ren ρ):=by rw[i!,h];rfl
theorem kJ.ren(e:∀i L,N i=some L->M (ρ i)=some L){L:Loc}{w:World}{o:Ob}(h:kJ N L w o):kJ M L w (o.ren ρ):=by
 cases o with
 |cells wr cs=>
  obtain⟨c,el,fr,a,b,g,f⟩:=h;exact⟨c,el,fr,a,b,λk v j=>by obtain⟨u,m,rfl⟩:=ayd j;obtain⟨x,p,q,r⟩:=g k u m;exact⟨x,p,q.ren e,r⟩,by rw[e!];exact f⟩
 |map es=>
  obtain⟨en,n,a,⟨l,p,q⟩,b,c,d⟩:=h;exact⟨en,n,a,⟨l,p,q.ren e⟩,b.ren,c,d⟩
 |iter s pos=>exact h
 |bytes cs=>
  obtain⟨c,el,fr,a,b,g,f⟩:=h;exact⟨c,el,fr,a,b,λk v j=>by obtain⟨u,m,rfl⟩:=ayd j;obtain⟨x,p,q,r⟩:=g k u m;exact⟨x,p,q.ren e,r⟩,f⟩
theorem kJ.nY{n:Nat}(j:∀i,i.nat<n->∀L,M (ρ i)=some L->N i=some L){L:Loc}{w:World}{o:Ob}(hi:o.ins n=true)(h:kJ M L w (o.ren ρ)):kJ N L w o:=by
 cases o with
 |cells wr cs=>
  obtain⟨c,el,fr,a,b,g,f⟩:=h;exact⟨c,el,fr,a,b,λk v e=>by obtain⟨x,p,q,r⟩:=g k _ (get_map e);exact⟨x,p,q.nY j (SL hi _ (n! e)),r⟩,by rw[e!]at f;exact f⟩
 |map es=>
  obtain⟨en,m,a,⟨l,p,q⟩,b,c,d⟩:=h;exact⟨en,m,a,⟨l,p,q.nY j hi⟩,b.nY,c,d⟩
 |iter s pos=>exact h
 |bytes cs=>
  obtain⟨c,el,fr,a,b,g,f⟩:=h;exact⟨c,el,fr,a,b,λk v e=>by obtain⟨x,p,q,r⟩:=g k _ (get_map e);exact⟨x,p,q.nY j (SL hi _ (n! e)),r⟩,f⟩
end
section
variable{P:Program}{G:Nat}
structure Sub (G:Nat) (ρ:Pos->Pos) (K h:Hp):Prop where
 inj:∀i j,i.nat<K.next.nat->j.nat<K.next.nat->ρ i=ρ j->i=j
 lt:∀i,i.nat<K.next.nat->(ρ i).nat<h.next.nat
 ob:∀i o,K.get i=some o->i.nat<K.next.nat/\o.ins K.next.nat=true/\h.get (ρ i)=some (o.ren ρ)
 gl:∀g,g<G->g<K.next.nat/\ρ (Pos.of g)=Pos.of g
def sig(ρ:Pos->Pos)(a b:Nat)(i:Pos):Pos:=if i.nat<a then ρ i else Pos.of (i.nat - a+b)
theorem aed{ρ:Pos->Pos}{a b:Nat}{i:Pos}(h:i.nat<a):sig ρ a b i=ρ i:=if_pos h
theorem alx{ρ:Pos->Pos}{a b:Nat}{i:Pos}(h:a<=i.nat):sig ρ a b i=Pos.of (i.nat - a+b):=if_neg (by omega)
structure Glued (ρ:Pos->Pos) (K K' h h':Hp):Prop where
 next:h'.next.nat=h.next.nat+(K'.next.nat - K.next.nat)
 old:∀i,i.nat<K.next.nat->K.get i≠none->h'.get (ρ i)=(K'.get i).map (Ob.ren (sig ρ K.next.nat h.next.nat))
 new:∀i,K.next.nat<=i.nat->i.nat<K'.next.nat->h'.get (sig ρ K.next.nat h.next.nat i)=(K'.get i).map (Ob.ren (sig ρ K.next.nat h.next.nat))
 oth:∀j,(∀i,i.nat<K.next.nat->K.get i≠none->ρ i≠j)->(j.nat<h.next.nat\/h'.next.nat<=j.nat)->h'.get j=h.get j
def Does(P:Program)(G:Nat)(f:FuncId)(a0:List V)(K:Hp)(r:V)(a:Hp):Prop:=
 ∀(M:Mp) (w:World) (cargs:List Value),Rel G M K w->bV M a0 cargs->Opq P (Post G M K w r a) ((callFunc f cargs.toArray).run P w)
theorem atI{f:FuncId}{a0:List V}{K K' h h':Hp}{ρ:Pos->Pos}{r0:V}(hD:Does P G f a0 K r0 K')(S:Sub G ρ K h)(hi:insL K.next.nat a0=true)(hG:Glued ρ K K' h h'){M:Mp}{w:World}{cargs:List Value}(I:Rel G M h w)(ha:bV M (a0.map (V.ren ρ)) cargs):
  Opq P (Post G M h w (r0.ren (sig ρ K.next.nat h.next.nat)) h') ((callFunc f cargs.toArray).run P w):=by
 have hN:∀i,i.nat<K.next.nat->∀L,M (ρ i)=some L->(if i.nat<K.next.nat then M (ρ i) else none)=some L:=λi hi L a=>by rw[if_pos hi];exact a
 have an:Rel G (λi=>if i.nat<K.next.nat then M (ρ i) else none) K w:=by
  refine⟨λi o ae=>?_,λi aq=>if_neg (by omega),λi j o p L Q E ae au B a t=>?_,λg Y=>?_⟩
  ·obtain⟨s,J,C⟩:=S.ob i o ae;obtain⟨L,a,hO⟩:=I.ob _ _ C;exact⟨L,hN i s L a,hO.nY hN J⟩
  ·obtain⟨s,-,C⟩:=S.ob i o ae;obtain⟨g1,-,g3⟩:=S.ob j p au;simp only[s,g1,if_true]at a t;exact I.sep _ _ _ _ L Q (λq=>E (S.inj i j s g1 q)) C g3 (by rw[Ob.AP];exact B) a t
  ·obtain⟨s,J⟩:=S.gl g Y;obtain⟨n,X⟩:=I.gl g Y;exact⟨n,by simp only[Pos.gV,s,if_true,J];exact X⟩
 have ac:=hD _ w cargs an (ha.nY hN hi);refine Opq.mono (λc w' hp=>?_) ac;obtain⟨N',ay,ab,m⟩:=hp;have ax:=m.next
 have ah:∀i,i.nat<K.next.nat->N' i=M (ρ i):=λi y=>by
  cases hm:M (ρ i) with
  |none=>exact m.none i y (by simp only[y,if_true];exact hm)
  |some L=>exact m.le i L (hN i y L hm)
 obtain⟨M',aa⟩:∃M':Mp,M'=λj=>if j.nat<h.next.nat then M j else N' (Pos.of (j.nat - h.next.nat+K.next.nat)):=⟨_,rfl⟩
 have d:∀j,j.nat<h.next.nat->M' j=M j:=λj r=>by rw[aa];exact if_pos r
 have v:∀i,M' (sig ρ K.next.nat h.next.nat i)=N' i:=λi=>by
  rcases g! i.nat K.next.nat with q|q
  ·rw[aed q,d _ (S.lt i q),ah i q]
  ·rw[alx q,aa];simp only[Pos.gV];rw[if_neg (by omega)];congr 1;exact Pos.yx (by rw[Pos.gV];omega)
 have O:∀i L,N' i=some L->M' (sig ρ K.next.nat h.next.nat i)=some L:=λi L a=>by rw[v];exact a
 have af:M.le M':=λj L a=>by
  have:j.nat<h.next.nat:=by
   rcases g! j.nat h.next.nat with q|q
   ·exact q
   ·rw[I.fresh j q]at a;cases a
  rw[d j this];exact a
 have cases':∀j o,h'.get j=some o->(∃i o',K'.get i=some o'/\o=o'.ren (sig ρ K.next.nat h.next.nat)/\j=sig ρ K.next.nat h.next.nat i)\/
   (j.nat<h.next.nat/\h.get j=some o/\∀i,i.nat<K.next.nat->K.get i≠none->ρ i≠j):=λj o r=>by
  by_cases U:∃i,i.nat<K.next.nat/\K.get i≠none/\ρ i=j
  ·obtain⟨i,s,J,rfl⟩:=U;rw[hG.old i s J]at r;cases l:K'.get i with
   |none=>rw[l]at r;cases r
   |some o'=>rw[l]at r;cases r;exact .inl ⟨i,o',l,rfl,(aed s).symm⟩
  ·have z:∀i,i.nat<K.next.nat->K.get i≠none->ρ i≠j:=λi s J C=>U ⟨i,s,J,C⟩;rcases g! j.nat h.next.nat with q|q
   ·rw[hG.oth j z (.inl q)]at r;exact .inr ⟨q,r,z⟩
   ·rcases g! j.nat h'.next.nat with q'|q'
    ·have e1:j=sig ρ K.next.nat h.next.nat (Pos.of (j.nat - h.next.nat+K.next.nat)):=by
      rw[alx (by rw[Pos.gV];omega),Pos.gV];exact Pos.yx (by rw[Pos.gV];omega)
     have aw:=hG.next;rw[e1,hG.new _ (by rw[Pos.gV];omega) (by rw[Pos.gV];omega)]at r;cases l:K'.get (Pos.of (j.nat - h.next.nat+K.next.nat)) with
     |none=>rw[l]at r;cases r
     |some o'=>rw[l]at r;cases r;exact .inl ⟨_,o',l,rfl,e1⟩
    ·rw[hG.oth j z (.inr q')]at r;obtain⟨L,a,-⟩:=I.ob j o r;rw[I.fresh j q]at a;cases a
 have apart:∀j o L,h.get j=some o->M j=some L->(∀i,i.nat<K.next.nat->K.get i≠none->ρ i≠j)->∀k p Q,K.get k=some p->(if k.nat<K.next.nat then M (ρ k) else none)=some Q->(o.own=true\/p.own=true)->L.blk≠Q.blk:=
  λj o L r a z k p Q l t B=>by
   obtain⟨s,-,C⟩:=S.ob k p l;simp only[s,if_true]at t;have E:=z k s (by rw[l];simp);rcases B with B|B
   ·exact I.sep _ _ _ _ L Q E.symm r C B a t
   ·exact λe=>I.sep _ _ _ _ Q L E C r (by rw[Ob.AP];exact B) t a e.symm
 have am:Rel G M' h' w':=by
  refine⟨λj o r=>?_,λj aq=>?_,λi j o p L Q E y ar B a t=>?_,λg Y=>?_⟩
  ·rcases cases' j o r with⟨i,o',l,rfl,rfl⟩|⟨av,Y,z⟩
   ·obtain⟨L,a,hO⟩:=ab.ob i o' l;exact⟨L,O i L a,hO.ren O⟩
   ·obtain⟨L,a,hO⟩:=I.ob j o Y;refine⟨L,by rw[d j av];exact a,(hO.of_block ?_).mono af⟩;exact m.same L.blk hO.lt λk p Q l hp t=>λe=>apart j o L Y a z k p Q l t (.inr hp) e.symm
  ·have aw:=hG.next;rw[aa];simp only[];rw[if_neg (by omega)];exact ab.fresh _ (by rw[Pos.gV];omega)
  ·rcases cases' i o y with⟨i1,o1,H,rfl,rfl⟩|⟨u,D,W⟩<;>rcases cases' j p ar with⟨i2,o2,ak,rfl,rfl⟩|⟨Z,ad,al⟩
   ·rw[v]at a t;exact ab.sep i1 i2 o1 o2 L Q (λq=>E (by rw[q])) H ak (by rw[Ob.AP]at B;exact B) a t
   ·rw[v]at a;rw[d _ Z]at t;obtain⟨Q',aj,ap⟩:=I.ob j p ad;rw[t]at aj;cases aj;rcases m.own i1 o1 L H (by rw[Ob.AP]at B;exact B) a with hs|⟨k,pk,Kk,l,ag,x,hb⟩
    ·have:=ap.lt;omega
    ·rw[<-hb];exact λe=>apart j p Q ad t al k pk Kk l x (.inr ag) e.symm
   ·rw[d _ u]at a;rw[v]at t;obtain⟨L',ai,ao⟩:=I.ob i o D;rw[a]at ai;cases ai;rcases m.all i2 o2 Q ak t with hs|⟨k,pk,Kk,l,x,hb⟩
    ·have:=ao.lt;omega
    ·rw[<-hb];exact apart i o L D a W k pk Kk l x (.inl B)
   ·rw[d _ u]at a;rw[d _ Z]at t;exact I.sep i j o p L Q E D ad B a t
  ·obtain⟨s,J⟩:=S.gl g Y;obtain⟨n,X⟩:=I.gl g Y;exact⟨n,af _ _ X⟩
 refine⟨M',ay.ren O,am,af,by have:=hG.next;omega,m.os,m.tape,m.output,m.size,λb hb z=>?_,λi o L y B a=>?_,λj r X=>?_,λi o L y a=>?_,λj r X=>by rw[d j r];exact X⟩
 ·refine m.same b hb λk p Q l hp t=>?_;obtain⟨s,-,C⟩:=S.ob k p l;simp only[s,if_true]at t;exact z _ _ Q C (by rw[Ob.AP];exact hp) t
 ·rcases cases' i o y with⟨i1,o1,H,rfl,rfl⟩|⟨u,D,W⟩
  ·rw[v]at a;rcases m.own i1 o1 L H (by rw[Ob.AP]at B;exact B) a with hs|⟨k,pk,Kk,l,ag,x,hb⟩
   ·exact .inl hs
   ·obtain⟨s,-,C⟩:=S.ob k pk l;simp only[s,if_true]at x;exact .inr ⟨_,_,Kk,C,by rw[Ob.AP];exact ag,x,hb⟩
  ·rw[d _ u]at a;exact .inr ⟨i,o,L,D,B,a,rfl⟩
 ·by_cases U:∃i,i.nat<K.next.nat/\K.get i≠none/\ρ i=j
  ·obtain⟨i,s,J,rfl⟩:=U;cases l:K.get i with
   |none=>exact absurd l J
   |some o=>rw[(S.ob i o l).2.2]at X;cases X
  ·rw[hG.oth j (λi s J C=>U ⟨i,s,J,C⟩) (.inl r)];exact X
 ·rcases cases' i o y with⟨i1,o1,H,rfl,rfl⟩|⟨u,D,W⟩
  ·rw[v]at a;rcases m.all i1 o1 L H a with hs|⟨k,pk,Kk,l,x,hb⟩
   ·exact .inl hs
   ·obtain⟨s,-,C⟩:=S.ob k pk l;simp only[s,if_true]at x;exact .inr ⟨_,_,Kk,C,x,hb⟩
  ·rw[d _ u]at a;exact .inr ⟨i,o,L,D,a,rfl⟩
def mkF:Hp->List Ob->Hp
 |h,[]=>h
 |h,o::l=>mkF (h.new o) l
theorem aad:∀(l:List Ob) (h:Hp),(mkF h l).next.nat=h.next.nat+l.length
 | [],h=>rfl
 |o::l,h=>by rw[mkF,aad l,p!];have:(h.new o).next.nat=h.next.nat+1:=Pos.fG _;omega
theorem agU:∀(l:List Ob) (h:Hp) (i:Pos),(mkF h l).get i=if h.next.nat<=i.nat/\i.nat<h.next.nat+l.length then l[i.nat - h.next.nat]? else h.get i
 | [],h,i=>by
  rw[if_neg]
  ·rfl
  ·simp only[D!];omega
 |o::l,h,i=>by
  rw[mkF,agU l];have a:(h.new o).next.nat=h.next.nat+1:=Pos.fG _;rw[a,p!];by_cases e:i=h.next
  ·subst e;rw[if_neg (by omega),if_pos (by omega),G!];exact h.Gm o
  ·have b:i.nat≠h.next.nat:=λq=>e (Pos.yx q);rw[h.lX e];by_cases hi:h.next.nat+1<=i.nat/\i.nat<h.next.nat+1+l.length
   ·rw[if_pos hi,if_pos (by omega),show i.nat - h.next.nat=(i.nat - (h.next.nat+1))+1 by omega,y!]
   ·rw[if_neg hi,if_neg (by omega)]
def aoB:Hp->List (Option Ob)->Hp
 |h,[]=>h
 |h,o::l=>aoB ⟨h.t.set o h.next,h.next.succ⟩ l
def mkO(G:Nat)(os:List (Option Ob)):Hp:=aoB (h0 G) os
theorem aqk:∀(l:List (Option Ob)) (h:Hp),(aoB h l).next.nat=h.next.nat+l.length
 | [],h=>rfl
 |o::l,h=>by
  rw[aoB,aqk l,p!];show h.next.succ.nat+_=_;rw[Pos.fG];omega
theorem atC:∀(l:List (Option Ob)) (h:Hp) (i:Pos),(aoB h l).get i=if h.next.nat<=i.nat/\i.nat<h.next.nat+l.length then(l[i.nat - h.next.nat]?).join else h.get i
 | [],h,i=>by
  rw[if_neg]
  ·rfl
  ·simp only[D!];omega
 |o::l,h,i=>by
  rw[aoB,atC l];show(if h.next.succ.nat<=i.nat/\i.nat<h.next.succ.nat+l.length then(l[i.nat - h.next.succ.nat]?).join else(h.t.set o h.next).get i)=_;rw[Pos.fG,p!];by_cases e:i=h.next
  ·subst e;rw[if_neg (by omega),if_pos (by omega),G!,T.oI];rfl
  ·have a:i.nat≠h.next.nat:=λq=>e (Pos.yx q);rw[T.sU _ e];by_cases hi:h.next.nat+1<=i.nat/\i.nat<h.next.nat+1+l.length
   ·rw[if_pos hi,if_pos (by omega),show i.nat - h.next.nat=(i.nat - (h.next.nat+1))+1 by omega,y!]
   ·rw[if_neg hi,if_neg (by omega)];rfl
theorem SH(os:List (Option Ob)):(mkO G os).next.nat=G+os.length:=by
 unfold mkO;rw[aqk];show(Pos.of G).nat+_=_;rw[Pos.gV]
theorem J6(os:List (Option Ob))(i:Pos):(mkO G os).get i=if G<=i.nat then(os[i.nat - G]?).join else none:=by
 unfold mkO;rw[atC,aeH];show(if(Pos.of G).nat<=i.nat/\i.nat<(Pos.of G).nat+os.length then(os[i.nat - (Pos.of G).nat]?).join else none)=_;rw[Pos.gV];by_cases a:G<=i.nat
 ·by_cases b:i.nat<G+os.length
  ·rw[if_pos ⟨a,b⟩,if_pos a]
  ·rw[if_neg (by omega),if_pos a,List.getElem?_eq_none (by omega)];rfl
 ·rw[if_neg (by omega),if_neg a]
def J3:Nat->List Pos->Pos
 |_,[]=>.h
 |0,p::_=>p
 |n+1,_::l=>J3 n l
theorem aox:∀(n:Nat) (l:List Pos),J3 n l=(l[n]?).getD .h
 |n,[]=>by cases n<;>rfl
 |0,_::_=>rfl
 |n+1,_::l=>by rw[J3,aox n l];rfl
def tau(a:Nat)(l:List Pos)(i:Pos):Pos:=match h! i.nat a with|true=>i|false=>J3 (i.nat - a) l
theorem pz{a:Nat}{l:List Pos}{i:Pos}(h:i.nat<a):tau a l i=i:=by
 unfold tau;rw[show h! i.nat a=true by simpa[d!]using h]
theorem XE{a:Nat}{l:List Pos}{i p:Pos}(h:a<=i.nat)(b:l[i.nat - a]?=some p):tau a l i=p:=by
 have:h! i.nat a=false:=by
  cases hb:h! i.nat a with
  |false=>rfl
  |true=>
       have:i.nat<a:=by simpa[d!]using hb
       omega
 unfold tau;rw[this];show J3 (i.nat - a) l=p;rw[aox,b];rfl
theorem V.agJ(ρ σ:Pos->Pos)(v:V):(v.ren ρ).ren σ=v.ren (λi=>σ (ρ i)):=by
 induction v with
 |func fn a b c d=>
  simp only[V.ren,c,d];congr 1;cases fn<;>first|rfl|(simp only[QE,Pos.MN])
 |iface t v e=>simp only[V.ren,e]
 |agg l e=>simp only[V.ren,e]
 |tuple l e=>simp only[V.ren,e]
 |cons a b c d=>simp only[V.ren,c,d]
 |_=>rfl
theorem awG{n:Nat}{ρ σ:Pos->Pos}(h:∀i:Pos,i.nat<n->ρ i=σ i){f:Fn}(a:agX n f=true):QE ρ f=QE σ f:=by
 cases f<;>first|rfl|(simp only[QE];rw[h _ (by rw[Pos.gV];simpa[agX,d!]using a)])
theorem V.sK{n:Nat}{ρ σ:Pos->Pos}(h:∀i:Pos,i.nat<n->ρ i=σ i):∀{v:V},v.ins n=true->v.ren ρ=v.ren σ:=by
 intro v;induction v with
 |ptr i o=>intro hi;simp only[V.ren];rw[h i (by simpa[V.ins,d!]using hi)]
 |slice i o m c=>intro hi;simp only[V.ren];rw[h i (by simpa[V.ins,d!]using hi)]
 |map i=>intro hi;simp only[V.ren];rw[h i (by simpa[V.ins,d!]using hi)]
 |func fn a b d e=>
  intro hi;simp only[V.ins,a!]at hi;simp only[V.ren];rw[awG h hi.1,d hi.2.1,e hi.2.2]
 |iface t v f=>intro hi;simp only[V.ren];rw[f hi]
 |agg l f=>intro hi;simp only[V.ren];rw[f hi]
 |tuple l f=>intro hi;simp only[V.ren];rw[f hi]
 |cons a b d e=>
  intro hi;simp only[V.ins,a!]at hi;simp only[V.ren];rw[d hi.1,e hi.2]
 |_=>intro _;rfl
theorem aj9{n:Nat}:∀{l:List (V×V)},aal n l=true->∀v∈l,v.1.ins n=true/\v.2.ins n=true
 | [],_,v,h=>by cases h
 |u::l,h,v,a=>by
  simp only[aal,a!]at h;rcases B!.1 a with rfl|a
  ·exact h.1
  ·exact aj9 h.2 v a
theorem Ob.sK{n:Nat}{ρ σ:Pos->Pos}(h:∀i:Pos,i.nat<n->ρ i=σ i){o:Ob}(hi:o.ins n=true):o.ren ρ=o.ren σ:=by
 cases o with
 |cells w cs=>simp only[Ob.ren];congr 1;exact k! λv a=>V.sK h (SL hi v a)
 |map es=>simp only[Ob.ren];congr 1;exact k! λv a=>by rw[V.sK h (aj9 hi v a).1,V.sK h (aj9 hi v a).2]
 |iter s n=>rfl
 |bytes cs=>simp only[Ob.ren];congr 1;exact k! λv a=>V.sK h (SL hi v a)
theorem Ob.agJ(ρ σ:Pos->Pos)(o:Ob):(o.ren ρ).ren σ=o.ren (λi=>σ (ρ i)):=by
 cases o with
 |cells w cs=>simp only[Ob.ren,r!];congr 1;apply k!;intro v _;exact V.agJ ρ σ v
 |map es=>simp only[Ob.ren,r!];congr 1;apply k!;intro v _;simp only[Function.comp,V.agJ]
 |iter s n=>rfl
 |bytes cs=>simp only[Ob.ren,r!];congr 1;apply k!;intro v _;exact V.agJ ρ σ v
def rising(b:Nat):Nat->List Pos->Bool
 |_,[]=>true
 |lo,p::l=>(j! lo p.nat&&h! p.nat b)&&rising b (p.nat+1) l
theorem aqa{b:Nat}:∀{lo:Nat} {l:List Pos},rising b lo l=true->(∀(k:Nat) (p:Pos),l[k]?=some p->lo+k<=p.nat/\p.nat<b)/\∀(k j:Nat) (p q:Pos),l[k]?=some p->l[j]?=some q->k<j->p.nat<q.nat
 |_,[],_=>⟨λk p h=>by simp at h,λk j p q h=>by simp at h⟩
 |lo,p::l,h=>by
  simp only[rising,a!]at h;obtain⟨⟨i,n⟩,o⟩:=h;obtain⟨f,g⟩:=aqa o;have m:=H! i;have d:p.nat<b:=by simpa[d!]using n
  refine⟨λk q c=>?_,λk j q r c e s=>?_⟩
  ·cases k with
   |zero=>simp at c;subst c;exact⟨by omega,d⟩
   |succ k=>simp at c;obtain⟨a,b⟩:=f k q c;exact⟨by omega,b⟩
  ·cases j with
   |zero=>omega
   |succ j=>
    simp at e;cases k with
    |zero=>simp at c;subst c;have:=(f j r e).1;omega
    |succ k=>simp at c;exact g k j q r c e (by omega)
def asa(n:Nat)(t:Pos->Pos)(K':Hp):Pos->List (Option Ob)->Bool
 |_,[]=>true
 |i,o::l=>(match o with
  |none=>true
  |some x=>x.ins n&&(match K'.get (t i) with|some q=>SX q (x.ren t)|none=>false))&&asa n t K' i.succ l
theorem aun{n:Nat}{t:Pos->Pos}{K':Hp}:∀{l:List (Option Ob)} {i:Pos},asa n t K' i l=true->∀(k:Nat) (x:Ob),l[k]?=some (some x)->x.ins n=true/\∀j:Pos,j.nat=i.nat+k->K'.get (t j)=some (x.ren t)
 | [],_,_,k,x,c=>by simp at c
 |o::l,i,h,k,x,c=>by
  simp only[asa,a!]at h;cases k with
  |zero=>
   simp at c;subst c;simp only[a!]at h;refine⟨h.1.1,λj e=>?_⟩;obtain rfl:j=i:=Pos.yx e;have d:=h.1.2
   split at d
   ·rename_i q f;rw[f,aoQ d]
   ·cases d
  |succ k=>
   simp at c;obtain⟨a,b⟩:=aun h.2 k x c;exact⟨a,λj e=>b j (by rw[Pos.fG];omega)⟩
def Gu(G a:Nat)(os:List (Option Ob))(l:List Pos)(rc:V):R V->Bool
 | .ok r K'=>(kN r (rc.ren (tau a l))&&rc.ins (G+os.length))&&((q! (G+os.length) (a+l.length)&&rising K'.next.nat a l)&&asa (G+os.length) (tau a l) K' (Pos.of G) os)
 | .bad=>false
theorem Does.comp{f:FuncId}{F:Fun}{a0:List V}{K:Hp}{a:Nat}{os:List (Option Ob)}{l:List Pos}{rc:V}(hF:aG P G f F)(ha:K.next.nat=a)(e:Gu G a os l rc (F a0 K)=true):Does P G f a0 K rc (mkO G os):=by
 subst ha;unfold Gu at e;split at e
 ·rename_i r0 K' e0;simp only[a!]at e;obtain⟨⟨e1,e2⟩,⟨N,e4⟩,e5⟩:=e;have e1:=vM _ _ e1;have N:=u! N;obtain⟨r1,r2⟩:=aqa e4;have aa:=aun e5;have W:=SH (G:=G) os;intro M w cargs B u;refine Opq.mono (λc w' hp=>?_) (hF a0 K r0 K' M w cargs e0 B u);obtain⟨E,I,t,d⟩:=hp;have U:∀g,g<G->g<K.next.nat:=λg O=>by
   rcases g! g K.next.nat with q|q
   ·exact q
   ·obtain⟨n,W⟩:=B.gl g O;rw[B.fresh (Pos.of g) (by rw[Pos.gV];exact q)]at W;cases W
  have s:∀i:Pos,K.next.nat<=i.nat->i.nat<K.next.nat+l.length->∃p,l[i.nat - K.next.nat]?=some p/\tau K.next.nat l i=p:=λi h1 h2=>by
   have:i.nat - K.next.nat<l.length:=by omega
   exact⟨_,b! this,XE h1 (b! this)⟩
  have J:∀i j:Pos,i.nat<K.next.nat+l.length->j.nat<K.next.nat+l.length->tau K.next.nat l i=tau K.next.nat l j->i=j:=λi j hi S e=>by
   rcases g! i.nat K.next.nat with x|x<;>rcases g! j.nat K.next.nat with y|y
   ·rw[pz x,pz y]at e;exact e
   ·obtain⟨q,D,e2⟩:=s j y S;rw[pz x,e2]at e;have:=(r1 _ _ D).1;rw[<-e]at this;omega
   ·obtain⟨q,D,e2⟩:=s i x hi;rw[pz y,e2]at e;have:=(r1 _ _ D).1;rw[e]at this;omega
   ·obtain⟨q,D,e2⟩:=s i x hi;obtain⟨r,B,N⟩:=s j y S;rw[e2,N]at e;rcases M! (i.nat - K.next.nat) (j.nat - K.next.nat) with z|z|z
    ·have:=r2 _ _ _ _ D B z;rw[e]at this;omega
    ·exact Pos.yx (by omega)
    ·have:=r2 _ _ _ _ B D z;rw[e]at this;omega
  have m:∀i x,(mkO G os).get i=some x->i.nat<G+os.length/\x.ins (G+os.length)=true/\K'.get (tau K.next.nat l i)=some (x.ren (tau K.next.nat l)):=λi x hi=>by
   rw[J6]at hi;split at hi
   ·rename_i hG;have hk:os[i.nat - G]?=some (some x):=by
     cases h:os[i.nat - G]? with
     |none=>rw[h]at hi;cases hi
     |some y=>rw[h]at hi;cases y with
      |none=>cases hi
      |some y=>cases hi;rfl
    have H:i.nat - G<os.length:=(l!.1 hk).1;obtain⟨p,q⟩:=aa _ _ hk;exact⟨by omega,p,q i (by rw[Pos.gV];omega)⟩
   ·cases hi
  have C:∀i:Pos,i.nat<G+os.length->∀L,E (tau K.next.nat l i)=some L->(if i.nat<G+os.length then E (tau K.next.nat l i) else none)=some L:=λi hi L k=>by rw[if_pos hi];exact k
  refine⟨λi=>if i.nat<G+os.length then E (tau K.next.nat l i) else none,?_,⟨λi o hi=>?_,λi ab=>if_neg (by omega),λi j o p L Q Y hi S ho k hQ=>?_,λg O=>?_⟩,
   ⟨λi L k=>?_,by omega,d.os,d.tape,d.output,d.size,λb hb Z=>d.same b hb Z,λi o L hi ho k=>?_,λi hi v=>?_,λi o L hi k=>?_,λi hi v=>?_⟩⟩
  ·rw[e1]at I;exact I.nY C e2
  ·obtain⟨a1,a2,a3⟩:=m i o hi;obtain⟨L,k,hO⟩:=t.ob _ _ a3;exact⟨L,C i a1 L k,hO.nY C a2⟩
  ·obtain⟨a1,a2,a3⟩:=m i o hi;obtain⟨b1,b2,b3⟩:=m j p S;simp only[a1,b1,if_true]at k hQ;exact t.sep _ _ _ _ L Q (λq=>Y (J i j (by omega) (by omega) q)) a3 b3 (by rw[Ob.AP];exact ho) k hQ
  ·obtain⟨n,X⟩:=t.gl g O;have:=U g O;refine⟨n,?_⟩;simp only[Pos.gV];rw[if_pos (by omega),pz (by rw[Pos.gV];exact this)];exact X
  ·have H:i.nat<K.next.nat:=by
    rcases g! i.nat K.next.nat with q|q
    ·exact q
    ·rw[B.fresh i q]at k;cases k
   show(if i.nat<G+os.length then E (tau K.next.nat l i) else none)=some L;rw[if_pos (by omega),pz H];exact d.le i L k
  ·obtain⟨a1,a2,a3⟩:=m i o hi;simp only[a1,if_true]at k;exact d.own _ _ L a3 (by rw[Ob.AP];exact ho) k
  ·cases hc:(mkO G os).get i with
   |none=>rfl
   |some x=>
    obtain⟨a1,a2,a3⟩:=m i x hc;rw[pz hi,d.old i hi v]at a3;cases a3
  ·obtain⟨a1,a2,a3⟩:=m i o hi;simp only[a1,if_true]at k;exact d.all _ _ L a3 k
  ·show(if i.nat<G+os.length then E (tau K.next.nat l i) else none)=none;split
   ·rw[pz hi];exact d.none i hi v
   ·rfl
 ·cases e
def aG8:List Pos->Pos->List Pos
 | [],p=> [p]
 |q::l,p=>q::aG8 l p
def aeD:List Pos->Nat
 | []=>0
 |_::l=>(aeD l).succ
def aFW(G:Nat)(i j:Pos)(L:List Pos):List Pos:=match q! i.nat (G+aeD L) with|true=>aG8 L j|false=>L
def aFj(G:Nat)(p:V):V->List Pos->List Pos:=
 V.rec (motive:=λ_=>V->List Pos->List Pos) (λ_ _ L=>L) (λ_ _ _ L=>L) (λ_ _ L=>L)
  (λi _ v L=>match v with| .ptr j _=>aFW G i j L|_=>L) (λ_ L=>L)
  (λi _ _ _ v L=>match v with| .slice j _ _ _=>aFW G i j L|_=>L) (λ_ L=>L) (λ_ L=>L)
  (λi v L=>match v with| .map j=>aFW G i j L|_=>L) (λ_ L=>L)
  (λ_ _ _ a b v L=>match v with| .func _ c d=>b d (a c L)|_=>L) (λ_ L=>L)
  (λ_ _ e v L=>match v with| .iface _ u=>e u L|_=>L) (λ_ L=>L)
  (λ_ e v L=>match v with| .agg u=>e u L|_=>L) (λ_ e v L=>match v with| .tuple u=>e u L|_=>L) (λ_ L=>L)
  (λ_ _ a b v L=>match v with| .cons c d=>b d (a c L)|_=>L) p
def Ws(G:Nat):List V->List V->List Pos->List Pos
 | [],_,L=>L
 |p::ps,vs,L=>(match vs with| []=>L|v::vs=>Ws G ps vs (aFj G p v L))
def aLH(G:Nat):List (V×V)->List (V×V)->List Pos->List Pos
 | [],_,L=>L
 |p::ps,vs,L=>(match vs with| []=>L|v::vs=>aLH G ps vs (aFj G p.2 v.2 (aFj G p.1 v.1 L)))
def atF(G:Nat)(o q:Ob)(L:List Pos):List Pos:=match o with
 | .cells _ l=>(match q with| .cells _ k=>Ws G l k L|_=>L)
 | .map l=>(match q with| .map k=>aLH G l k L|_=>L)
 |_=>L
def aae(G:Nat)(h:Hp):List Ob->Nat->List Pos->Option (List Pos)
 | [],_,L=>some L
 |o::ks,n,L=>(match h! n (aeD L) with
  |true=>(match h.get (J3 n L) with
   |some q=>(match atF G o q L with|a=>(match SX q (o.ren (tau G a)) with|true=>aae G h ks n.succ a|false=>none))
   |none=>none)
  |false=>none)
def RY(t:Pos->Pos):List V->List V
 | []=> []
 |v::l=>v.ren t::RY t l
theorem axW(t:Pos->Pos):∀l:List V,RY t l=l.map (V.ren t)
 | []=>rfl
 |v::l=>by rw[RY,axW t l];rfl
def atD(p:Pos):List Pos->Bool
 | []=>false
 |q::l=>(match p.eq q with|true=>true|false=>atD p l)
theorem alQ{p:Pos}:∀{l:List Pos},atD p l=false->p∉l
 | [],_,h=>by cases h
 |q::l,e,h=>by
  unfold atD at e;split at e
  ·cases e
  ·rename_i a;rcases B!.1 h with rfl|h
   ·rw[Pos.eq_iff.2 rfl]at a;cases a
   ·exact alQ e h
def XU:List Pos->Bool
 | []=>true
 |p::l=>(match atD p l with|true=>false|false=>XU l)
theorem aqg:∀{l:List Pos},XU l=true->l.Nodup
 | [],_=>List.nodup_nil
 |p::l,h=>by
  unfold XU at h;split at h
  ·cases h
  ·rename_i a;exact List.nodup_cons.2 ⟨alQ a,aqg h⟩
theorem aex{l:List Pos}(h:l.Nodup){i j:Nat}{p:Pos}(hi:l[i]?=some p)(d:l[j]?=some p):i=j:=by
 have h:=List.pairwise_iff_getElem.1 (List.nodup_iff_pairwise_ne.1 h);obtain⟨a,c⟩:=l!.1 hi;obtain⟨b,hb⟩:=l!.1 d;rcases M! i j with q|q|q
 ·exact absurd (c.trans hb.symm) (h i j a b q)
 ·exact q
 ·exact absurd (hb.trans c.symm) (h j i b a q)
def XM(a b:Nat):List Pos->Bool
 | []=>true
 |p::l=>(j! a p.nat&&h! p.nat b)&&XM a b l
theorem aqb{a b:Nat}:∀{l:List Pos},XM a b l=true->∀p∈l,a<=p.nat/\p.nat<b
 | [],_,p,h=>by cases h
 |q::l,e,p,h=>by
  simp only[XM,a!]at e;rcases B!.1 h with rfl|h
  ·exact⟨H! e.1.1,by simpa[d!]using e.1.2⟩
  ·exact aqb e.2 p h
def aor(t:Pos->Pos)(h:Hp):List Pos->List Ob->Bool
 | [],ks=>(match ks with| []=>true|_::_=>false)
 |p::l,ks=>(match ks with| []=>false|o::ks=>(match h.get p with|some q=>SX q (o.ren t)|none=>false)&&aor t h l ks)
theorem ax0{t:Pos->Pos}{h:Hp}:∀{l:List Pos} {ks:List Ob},aor t h l ks=true->l.length=ks.length/\∀(k:Nat) (p:Pos) (o:Ob),l[k]?=some p->ks[k]?=some o->h.get p=some (o.ren t)
 | [],[],_=>⟨rfl,λk p o h=>by simp at h⟩
 | [],_::_,h=>by cases h
 |_::_,[],h=>by cases h
 |p::l,o::ks,e=>by
  simp only[aor,a!]at e;obtain⟨a,b⟩:=ax0 e.2;refine⟨by simp[a],λk q x c d=>?_⟩;cases k with
  |zero=>
   simp at c d;subst c;subst d;have e1:=e.1;split at e1
   ·rename_i y f;rw[f,aoQ e1]
   ·cases e1
  |succ k=>simp at c d;exact b k q x c d
def okC(G:Nat)(a0:List V)(ks:List Ob)(args:List V)(h:Hp)(L:List Pos):Bool:=
 (eqL args (RY (tau G L) a0)&&XM G h.next.nat L)&&(XU L&&aor (tau G L) h L ks)
def Wu(G:Nat)(a0:List V)(ks:List Ob)(args:List V)(h:Hp):Option (List Pos):=match Ws G a0 args [] with
 |a=>(match eqL args (RY (tau G a) a0) with
  |true=>(match aae G h ks 0 a with
   |some L=>(match okC G a0 ks args h L with|true=>some L|false=>none)
   |none=>none)
  |false=>none)
theorem aHZ{a0:List V}{ks:List Ob}{args:List V}{h:Hp}{L:List Pos}(e:Wu G a0 ks args h=some L):okC G a0 ks args h L=true:=by
 unfold Wu at e;dsimp only at e;split at e
 ·split at e
  ·split at e
   ·rename_i a;cases e;exact a
   ·cases e
  ·cases e
 ·cases e
def succs:Pos->List Ob->List Pos
 |_,[]=> []
 |p,_::l=>p::succs p.succ l
theorem ad7:∀{l:List Ob} {p:Pos} {k:Nat},k<l.length->(succs p l)[k]?=some (Pos.of (p.nat+k))
 | [],_,_,h=>by cases h
 |_::l,p,0,_=>by simp only[succs,List.getElem?_cons_zero,Nat.add_zero,Pos.MN]
 |_::l,p,k+1,h=>by
  simp only[succs,y!];rw[ad7 (by simpa using h),Pos.fG];congr 2;omega
def auz:List Pos->List Pos->List Pos
 | [],m=>m
 |p::l,m=>p::auz l m
theorem aoY:∀l m:List Pos,auz l m=l++m
 | [],_=>rfl
 |p::l,m=>by rw[auz,aoY l m];rfl
def patch:List (Option Ob)->List (Nat×Option Ob)->List (Option Ob)
 |os,[]=>os
 |os,c::cs=>patch (os.set c.1 c.2) cs
def aFl(t:Pos->Pos)(o:Option Ob):Option Ob:=match o with|some x=>some (x.ren t)|none=>none
theorem aHP(t:Pos->Pos)(o:Option Ob):aFl t o=o.map (Ob.ren t):=by cases o<;>rfl
def ZU(t:Pos->Pos)(L:List Pos):Hp->List (Nat×Option Ob)->Hp
 |h,[]=>h
 |h,c::cs=>ZU t L (h.put (J3 c.1 L) (aFl t c.2)) cs
def aAt(t:Pos->Pos):List Ob->List Ob
 | []=> []
 |o::l=>o.ren t::aAt t l
theorem aoi(t:Pos->Pos):∀l:List Ob,aAt t l=l.map (Ob.ren t)
 | []=>rfl
 |v::l=>by rw[aAt,aoi t l];rfl
def QD(G:Nat)(cs:List (Nat×Option Ob))(news:List Ob)(rc:V)(L:List Pos)(h:Hp):R V:=match tau G (auz L (succs h.next news)) with
 |t=>.ok (rc.ren t) (mkF (ZU t L h cs) (aAt t news))
def aj7(G:Nat)(a0:List V)(ks:List Ob)(cs:List (Nat×Option Ob))(news:List Ob)(rc:V)(F:Fun):Fun:=λargs h=>match Wu G a0 ks args h with
 |some L=>QD G cs news rc L h
 |none=>F args h
def aoD(n:Nat):List Ob->Bool
 | []=>true
 |o::l=>o.ins n&&aoD n l
theorem SK{n:Nat}:∀{l:List Ob} {k:Nat} {o:Ob},aoD n l=true->l[k]?=some o->o.ins n=true
 | [],k,o,_,h=>by simp at h
 |x::l,0,o,h,e=>by
  simp only[aoD,a!]at h;simp at e;subst e;exact h.1
 |x::l,k+1,o,h,e=>by
  simp only[aoD,a!]at h;exact SK h.2 (by simpa using e)
def aoE(n m:Nat):List (Nat×Option Ob)->Bool
 | []=>true
 |c::cs=>(h! c.1 n&&(match c.2 with|some o=>o.ins m|none=>true))&&aoE n m cs
def arU(G n:Nat)(a0:List V)(ks:List Ob)(cs:List (Nat×Option Ob))(news:List Ob)(rc:V):Bool:=
 (q! ks.length n&&(insL (G+n) a0&&aoD (G+n) ks))&&(aoE n (G+n+news.length) cs&&(aoD (G+n+news.length) news&&rc.ins (G+n+news.length)))
theorem ML:∀{cs:List (Nat×Option Ob)} {os:List (Option Ob)},(patch os cs).length=os.length
 | [],_=>rfl
 |c::cs,os=>by rw[patch,ML,P!]
theorem EL(t:Pos->Pos)(L:List Pos):∀(cs:List (Nat×Option Ob)) (h:Hp),(ZU t L h cs).next=h.next
 | [],_=>rfl
 |c::cs,h=>by rw[ZU,EL t L cs];rfl
theorem asU{t:Pos->Pos}{L:List Pos}{n m:Nat}(r:L.length=n)(hd:L.Nodup):∀{cs:List (Nat×Option Ob)} {h:Hp} {os:List (Option Ob)},os.length=n->aoE n m cs=true->(∀(k:Nat) (p:Pos),L[k]?=some p->h.get p=((os[k]?).join).map (Ob.ren t))->
  (∀(k:Nat) (p:Pos),L[k]?=some p->(ZU t L h cs).get p=(((patch os cs)[k]?).join).map (Ob.ren t))/\∀j,j∉L->(ZU t L h cs).get j=h.get j
 | [],h,os,_,_,g=>⟨g,λ_ _=>rfl⟩
 |c::cs,h,os,s,hi,g=>by
  simp only[aoE,a!]at hi;have u:c.1<n:=by simpa[d!]using hi.1.1
  have d:c.1<L.length:=by omega
  have l:J3 c.1 L=L[c.1]:=by rw[aox,b! d];rfl
  obtain⟨a,b⟩:=asU (t:=t) (m:=m) r hd (cs:=cs) (h:=h.put (J3 c.1 L) (aFl t c.2)) (os:=os.set c.1 c.2) (by rw[P!];exact s) hi.2 (λk p f=>by
   by_cases e:k=c.1
   ·subst e;have:p=L[c.1]:=by rw[b! d]at f;exact(Option.some.inj f).symm
    rw[l,this,h.dU,List.getElem?_set_self (by omega),aHP];rfl
   ·have i:p≠L[c.1]:=λq=>by
     exact e (aex hd f (by rw[q];exact b! d))
    rw[l,h.cZ i,I! (Ne.symm e)];exact g k p f)
  refine⟨a,λj o=>?_⟩;rw[ZU,b j o,l,h.cZ λq=>o (by rw[q];exact List.getElem_mem d)]
theorem aye{f:FuncId}{F:Fun}{n:Nat}{a0:List V}{ks:List Ob}{cs:List (Nat×Option Ob)}{news:List Ob}{rc:V}(hF:aG P G f F)(hs:arU G n a0 ks cs news rc=true)
  (hD:Does P G f a0 (mkO G (ks.map some)) rc (mkO G (patch (ks.map some) cs++news.map some))):aG P G f (aj7 G a0 ks cs news rc F):=by
 intro args h r h' M w cargs e Z ha;unfold aj7 at e;split at e
 ·rename_i L hL;have d:=aHZ hL;unfold okC at d;simp only[a!]at d;obtain⟨⟨k1,k2⟩,k3,k4⟩:=d;have k1:=aeJ k1;rw[axW]at k1;have k2:=aqb k2;have k3:=aqg k3;obtain⟨k4,k5⟩:=ax0 k4;unfold arU at hs;simp only[a!]at hs;obtain⟨⟨W,s2,s3⟩,s4,s5,s6⟩:=hs;have W:=u! W;have aa:L.length=n:=by omega
  have u:(mkO G (ks.map some)).next.nat=G+n:=by rw[SH,e!,W]
  have Q:(mkO G (patch (ks.map some) cs++news.map some)).next.nat=G+n+news.length:=by rw[SH,C!,ML,e!,e!,W];omega
  have B:∀i:Pos,G<=i.nat->i.nat<G+n->∃p,L[i.nat - G]?=some p/\tau G L i=p:=λi h1 h2=>by
   have:i.nat - G<L.length:=by omega
   exact⟨_,b! this,XE h1 (b! this)⟩
  have ac:∀g,g<G->g<h.next.nat:=λg hg=>by
   rcases g! g h.next.nat with q|q
   ·exact q
   ·obtain⟨n,hn⟩:=Z.gl g hg;rw[Z.fresh (Pos.of g) (by rw[Pos.gV];exact q)]at hn;cases hn
  have S:Sub G (tau G L) (mkO G (ks.map some)) h:=by
   refine⟨λi j hi hj e=>?_,λi hi=>?_,λi o hi=>?_,λg hg=>⟨by omega,pz (by rw[Pos.gV];exact hg)⟩⟩
   ·rw[u]at hi hj;rcases g! i.nat G with x|x<;>rcases g! j.nat G with y|y
    ·rw[pz x,pz y]at e;exact e
    ·obtain⟨q,I,e2⟩:=B j y hj;rw[pz x,e2]at e;have:=(k2 q (n! I)).1;rw[<-e]at this;omega
    ·obtain⟨q,I,e2⟩:=B i x hi;rw[pz y,e2]at e;have:=(k2 q (n! I)).1;rw[e]at this;omega
    ·obtain⟨q,I,e2⟩:=B i x hi;obtain⟨r,Z,e3⟩:=B j y hj;rw[e2,e3]at e;subst e;have:=aex k3 I Z;exact Pos.yx (by omega)
   ·rw[u]at hi;rcases g! i.nat G with x|x
    ·rw[pz x];exact ac _ x
    ·obtain⟨q,I,e2⟩:=B i x hi;rw[e2];exact(k2 q (n! I)).2
   ·rw[J6]at hi;split at hi
    ·rename_i hG;have d:ks[i.nat - G]?=some o:=by
      rw[i!]at hi;cases h:ks[i.nat - G]? with
      |none=>rw[h]at hi;cases hi
      |some y=>rw[h]at hi;exact hi
     have H:i.nat - G<ks.length:=(l!.1 d).1;obtain⟨q,I,e2⟩:=B i hG (by omega);exact⟨by omega,by rw[u];exact SK s3 d,by rw[e2];exact k5 _ _ _ I d⟩
    ·cases hi
  unfold QD at e;simp only[]at e;rw[aoY,aoi]at e;obtain⟨t,ht⟩:∃t,t=tau G (L++succs h.next news):=⟨_,rfl⟩
  rw[<-ht]at e;cases e;have J:∀i:Pos,i.nat<G+n+news.length->sig (tau G L) (mkO G (ks.map some)).next.nat h.next.nat i=t i:=λi hi=>by
   rw[ht,u];rcases g! i.nat (G+n) with x|x
   ·rw[aed x];rcases g! i.nat G with y|y
    ·rw[pz y,pz y]
    ·obtain⟨q,I,e2⟩:=B i y x;rw[e2,XE y (by rw[w! (by omega)];exact I)]
   ·rw[alx x];have:(L++succs h.next news)[i.nat - G]?=some (Pos.of (h.next.nat+(i.nat - G - n))):=by
     rw[E! (by omega),aa];exact ad7 (by omega)
    rw[XE (by omega) this];congr 1;omega
  have ab:∀i:Pos,i.nat<G+n->tau G L i=t i:=λi hi=>by rw[<-J i (by omega),aed (by rw[u];exact hi)]
  have c1:rc.ren t=rc.ren (sig (tau G L) (mkO G (ks.map some)).next.nat h.next.nat):=V.sK (n:=G+n+news.length) (λi hi=>(J i hi).symm) s6;have U:=asU (t:=t) (L:=L) (n:=n) (m:=G+n+news.length) aa k3 (cs:=cs) (h:=h) (os:=ks.map some) (by rw[e!];exact W) s4 (λk p d=>by
   have H:k<ks.length:=by have:=(l!.1 d).1;omega
   have K:ks[k]?=some ks[k]:=b! H;rw[k5 k p _ d K,i!,K];show _=some _;rw[Ob.sK (n:=G+n) ab (SK s3 K)])
  have C:∀(cs:List (Nat×Option Ob)) (os:List (Option Ob)),aoE n (G+n+news.length) cs=true->(∀(k:Nat) (o:Ob),os[k]?=some (some o)->o.ins (G+n+news.length)=true)->∀(k:Nat) (o:Ob),(patch os cs)[k]?=some (some o)->o.ins (G+n+news.length)=true:=by
   intro cs;induction cs with
   |nil=>intro os _ h;exact h
   |cons c cs N=>
    intro os hi ah;simp only[aoE,a!]at hi;refine N (os.set c.1 c.2) hi.2 λk o d=>?_;by_cases e:c.1=k
    ·rw[List.getElem?_set]at d;rw[if_pos e]at d;split at d
     ·have h2:=hi.1.2;cases O:c.2 with
      |none=>rw[O]at d;cases d
      |some x=>rw[O]at d h2;cases d;exact h2
     ·cases d
    ·rw[I! e]at d;exact ah k o d
  have z:∀{a b:Nat},a<=b->∀v:V,v.ins a=true->v.ins b=true:=by
   intro a b ak v;have lt:∀i:Pos,h! i.nat a=true->h! i.nat b=true:=λi hi=>by simp only[d!] at*;omega
   induction v with
   |ptr i o=>exact lt i
   |slice i o m c=>exact lt i
   |map i=>exact lt i
   |func fn x y X Y=>
    intro hi;simp only[V.ins,a!]at hi⊢;refine⟨?_,X hi.2.1,Y hi.2.2⟩;have h1:=hi.1
    cases fn<;>first|rfl|(simp only[agX,d!]at h1⊢;omega)
   |iface t v N=>exact N
   |agg l N=>exact N
   |tuple l N=>exact N
   |cons x y X Y=>
    intro hi;simp only[V.ins,a!]at hi⊢;exact⟨X hi.1,Y hi.2⟩
   |_=>intro _;rfl
  have E:∀o:Ob,o.ins (G+n)=true->o.ins (G+n+news.length)=true:=by
   have hL:∀l:List V,insL (G+n) l=true->insL (G+n+news.length) l=true:=λl=>by
    induction l with
    |nil=>intro _;rfl
    |cons v l N=>intro h;simp only[insL,a!]at h⊢;exact⟨z (by omega) v h.1,N h.2⟩
   have hE:∀l:List (V×V),aal (G+n) l=true->aal (G+n+news.length) l=true:=λl=>by
    induction l with
    |nil=>intro _;rfl
    |cons v l N=>intro h;simp only[aal,a!]at h⊢;exact⟨⟨z (by omega) _ h.1.1,z (by omega) _ h.1.2⟩,N h.2⟩
   intro o;cases o with
   |cells w cs=>exact hL cs
   |map es=>exact hE es
   |iter s n=>intro h;exact h
   |bytes cs=>exact hL cs
  have ai:=C cs (ks.map some) s4 (λk o d=>by
   rw[i!]at d;cases h:ks[k]? with
   |none=>rw[h]at d;cases d
   |some y=>rw[h]at d;cases d;exact E _ (SK s3 h))
  have gl:Glued (tau G L) (mkO G (ks.map some)) (mkO G (patch (ks.map some) cs++news.map some)) h (mkF (ZU t L h cs) (news.map (Ob.ren t))):=by
   have D:∀o:Option Ob,(∀x,o=some x->x.ins (G+n+news.length)=true)->o.map (Ob.ren t)=o.map (Ob.ren (sig (tau G L) (mkO G (ks.map some)).next.nat h.next.nat)):=λo ho=>by
    cases o with
    |none=>rfl
    |some x=>show some _=some _;rw[Ob.sK (n:=G+n+news.length) (λi hi=>(J i hi).symm) (ho x rfl)]
   refine⟨?_,λi hi ag=>?_,λi hi ad=>?_,λj hj af=>?_⟩
   ·rw[aad,EL,e!,u,Q];omega
   ·have hG:G<=i.nat:=by
     rcases g! i.nat G with x|x
     ·exfalso;apply ag;rw[J6,if_neg (by omega)]
     ·exact x
    rw[u]at hi;obtain⟨p,hp,e2⟩:=B i hG hi;have al:=(k2 p (n! hp)).2;rw[e2,agU,EL,if_neg (by omega),U.1 _ p hp,J6,if_pos hG,w! (by rw[ML,e!,W];omega)];refine D _ λx K=>?_;refine ai (i.nat - G) x ?_;cases h:(patch (ks.map some) cs)[i.nat - G]? with
    |none=>rw[h]at K;cases K
    |some y=>rw[h]at K;cases y with
     |none=>cases K
     |some y=>cases K;rfl
   ·rw[u]at hi;rw[Q]at ad;have aj:(sig (tau G L) (mkO G (ks.map some)).next.nat h.next.nat i).nat=h.next.nat+(i.nat - (G+n)):=by rw[u,alx hi,Pos.gV];omega
    rw[agU,EL,e!,aj,if_pos (by omega),J6,if_pos (by omega),E! (by rw[ML,e!,W];omega),ML,e!,W,
     i!,i!,show i.nat - G - n=h.next.nat+(i.nat - (G+n)) - h.next.nat by omega]
    have H:h.next.nat+(i.nat - (G+n)) - h.next.nat<news.length:=by omega
    rw[b! H];show some _=some _;have:=D (some news[h.next.nat+(i.nat - (G+n)) - h.next.nat]) λx K=>by cases K;exact SK s5 (b! H)
    exact this
   ·have ae:j∉L:=λhm=>by
     obtain⟨k,d,e2⟩:=List.mem_iff_getElem.1 hm;have O:L[k]?=some j:=by rw[b! d,e2]
     refine hj (Pos.of (G+k)) (by rw[Pos.gV,u];omega) ?_ (XE (by rw[Pos.gV];omega) (by rw[Pos.gV,F!];exact O));rw[J6,Pos.gV,if_pos (by omega),F!,i!,b! (by omega:k<ks.length)];simp
    rw[aad,EL,e!]at af;rw[agU,EL,e!,if_neg (by omega)];exact U.2 j ae
  rw[c1];rw[k1]at ha;exact atI hD S (by rw[u];exact s2) gl Z ha
 ·exact hF args h r h' M w cargs e Z ha
theorem aFC{ρ:Pos->Pos}(h:∀i,ρ i=i)(f:Fn):QE ρ f=f:=by
 cases f<;>first|rfl|(simp only[QE,h,Pos.gV])
theorem V.aCm{ρ:Pos->Pos}(h:∀i,ρ i=i)(v:V):v.ren ρ=v:=by
 induction v with
 |ptr i o=>simp only[V.ren,h]
 |slice i o n c=>simp only[V.ren,h]
 |map i=>simp only[V.ren,h]
 |func fn a b d e=>simp only[V.ren,aFC h,d,e]
 |iface t v f=>simp only[V.ren,f]
 |agg l f=>simp only[V.ren,f]
 |tuple l f=>simp only[V.ren,f]
 |cons a b d e=>simp only[V.ren,d,e]
 |_=>rfl
def DN(A:List V->Option V)(F:Fun):Fun:=λargs h=>match A args with
 |some r=>.ok r h
 |none=>F args h
theorem zH{f:FuncId}{F:Fun}{A:List V->Option V}(m:aG P G f F)(u:∀args r,A args=some r->insL G args=true/\Gu G G [] [] r (F args (mkO G []))=true):aG P G f (DN A F):=by
 intro args h r h' M w cargs e d p;unfold DN at e;split at e
 ·rename_i B l;cases e;obtain⟨a1,a2⟩:=u _ _ l;have c:∀i,(mkO G []).get i=none:=λi=>by rw[J6];split<;>rfl
  have a:(mkO G []).next.nat=G:=by rw[SH];rfl
  have x:=Does.comp m a a2;have b:r.ins G=true:=by
   unfold Gu at a2;split at a2
   ·simp only[a!]at a2;exact a2.1.2
   ·cases a2
  have hG:∀g,g<G->g<h.next.nat:=λg t=>by
   rcases g! g h.next.nat with q|q
   ·exact q
   ·obtain⟨n,a⟩:=d.gl g t;rw[d.fresh (Pos.of g) (by rw[Pos.gV];exact q)]at a;cases a
  have S:Sub G (λi=>i) (mkO G []) h:=⟨λi j _ _ e=>e,λi hi=>by rw[a]at hi;exact hG _ hi,(λi o hi=>by rw[c]at hi;cases hi),λg t=>⟨by omega,rfl⟩⟩
  have gl:Glued (λi=>i) (mkO G []) (mkO G []) h h:=⟨by omega,λi _ k=>absurd (c i) k,λi y z=>by omega,λj _ _=>rfl⟩
  have s:=atI x S (by rw[a];exact a1) gl (M:=M) (w:=w) (cargs:=cargs) d (by
   have:args.map (V.ren λi=>i)=args:=by
    conv=>rhs;rw[<-List.map_id args]
    exact k! λv _=>V.aCm (λ_=>rfl) v
   rw[this];exact p)
  have e2:r.ren (sig (λi=>i) (mkO G []).next.nat h.next.nat)=r:=by
   rw[V.sK (n:=G) (σ:=λi=>i) (λi hi=>aed (by rw[a];exact hi)) b];exact V.aCm (λ_=>rfl) r
  rw[e2]at s;exact s
 ·exact m args h r h' M w cargs e d p
end
end Go.Vm
namespace Go.Ln
inductive Wds where
 |nil
 |cons (kind:Int) (text:List Nat) (kids rest:Wds)
 deriving DecidableEq
def Wds.len:Wds->Nat
 | .nil=>0
 | .cons _ _ _ r=>r.len+1
structure Wd where
 kind:Int
 text:List Nat
 kids:Wds
structure St where
 cur:List Nat
 rest:List (List Nat×List Nat)
def St.size(s:St):Nat:=s.cur.length+(s.rest.map λp=>p.2.length+1).sum
def Gv(c:Nat):Bool:=decide (33<=c/\c<=126/\c≠40/\c≠41/\c≠34/\c≠123)
def nH(s:List Nat):Option Nat:=
 if s= []\/s.length>10\/(s.head?=some 48/\s.length>1)\/¬(∀c∈s,48<=c/\c<=57) then none
 else if s.foldl (λn c=>n*10+(c - 48)) 0>4294967295 then none else some (s.foldl (λn c=>n*10+(c - 48)) 0)
structure Rd where
 texts:List (List Nat):= []
 lits:List (List Nat):= []
 long:Nat:=0
 wide:Nat:=0
 now:List Nat:= []
 want:Nat:=0
 lit:List Nat:= []
 literal:Bool:=false
 skip:Nat:=0
 line:Bool:=false
structure Got where
 kind:Int
 words:Wds
end Go.Ln
