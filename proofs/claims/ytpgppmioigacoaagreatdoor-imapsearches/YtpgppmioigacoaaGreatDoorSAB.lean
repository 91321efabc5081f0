/- Lemmas. No conditions. -/
import Derived.Test.YtpgppmioigacoaaGreatDoorSAA
import Derived.Laws.IdiomStrings
import Derived.Laws.BytesString
import Derived.Laws.MakeOwn
import Derived.Great.BuildSlice
set_option linter.all false
open Go.Builtin renaming zeroCells→a!,firstCells→d!,append_→g!,len_→k!,lenOf→B!,min_→L!,max_→M!,min2→o?,max2→p?
open Nat renaming le_of_ble_eq_true→b!,eq_of_beq_eq_true→c!,le_refl→h!,add_mul→i!,beq→l!,ble→q!,le_mul_of_pos_right→r!,mul_le_mul_right→C!,blt_eq→E!,zero_add→G!,blt→K!,ne_of_beq_eq_false→S!,zero_le→W!,mul_pos→X!,sub_self→z?,rec→A?,mul→B?,add_zero→C?,mod_lt→E?
open Go.Instr renaming sliceAt→e!,sliceBounds→n!,sliceBound→j?,slice→x?,alloc→y?,fill→D?
open List renaming mem_of_getElem?→j!,getElem?_eq_some_iff→p!,mem_map→u!,replicate→z!,getElem?_append→A!,take_length→H!,mem_append→I!,map_cons→O!,getElem?_eq_getElem→P!,map_map→R!,replicate_succ→Y!,map_congr_left→Z!,length_append→a?,getElem?_take→b?,getElem?_drop→c?,size_toArray→g?,getElem?_map→h?,flatten_cons→i?,foldl_cons→n?,mem_cons→r?,casesOn→w?,rec→F?
open Array renaming getElem?_eq_some_iff→o!,toList_map→t!,getElem?_toList→v!,getElem?_modify→w!,getElem?_setIfInBounds_self_of_lt→y!,toList_append→D!,getElem?_setIfInBounds_ne→F!,ext'→J!,getElem?_push_size→N!,range→T!,length_toList→V!,size_append→d?
open ByteArray renaming ext→x!
open Go.World renaming freeze→Q!,setCells→l?,setCell→q?,cell?→u?,alloc→v?
noncomputable section
namespace Go.Vm
section
variable{P:Program}{G:Nat}{M:Mp}{h h':Hp}{w:World}{r:V}
def atC(n:Nat)(l:List Nat):List Nat:=
 A? (motive:=λ_=>List Nat->List Nat) (λl=>l) (λ_ a l=>w? l [] (λ_ t=>a t)) n l
def takeN(n:Nat)(l:List Nat):List Nat:=
 A? (motive:=λ_=>List Nat->List Nat) (λ_=> []) (λ_ b l=>w? l [] (λa t=>a::b t)) n l
def aG0(n:Nat):∀l:List Nat,atC n l=l.drop n:=by
 induction n with
 |zero=>intro l;rfl
 |succ n b=>intro l;cases l with
  |nil=>rfl
  |cons a t=>exact(b t).trans (by simp)
def aF1(n:Nat):∀l:List Nat,takeN n l=l.take n:=by
 induction n with
 |zero=>intro l;rfl
 |succ n b=>intro l;cases l with
  |nil=>rfl
  |cons a t=>exact(congrArg (a:: ·) (b t)).trans (by simp)
def iM(x:Option V)(d:Nat)(k:Nat->R V):R V:=match x with
 |none=>k d
 |some v=>lS v k
def pF(M:Mp):Option V->Option Value->Prop
 |none,none=>True
 |some v,some c=>Rp M v c
 |_,_=>False
def TR(y:Option Value)(d n:Nat):Prop:=match y with
 |none=>n=d
 |some c=>∃k,c=.int k (.ofNat n)
def oP{x:Option V}{d:Nat}{k:Nat->R V}{y:Option Value}(a:pF M x y)(e:iM x d k=.ok r h'):∃n,TR y d n/\k n=.ok r h':=by
 cases x with
 |none=>cases y with
  |none=>exact⟨d,rfl,e⟩
  |some c=>exact a.elim
 |some v=>cases y with
  |none=>exact a.elim
  |some c=>
   obtain⟨b,n,rfl,e1⟩:=pR e;exact⟨n,⟨b,Rp.int a⟩,e1⟩
def run_sliceBound{k:IntKind}{n y:Nat}(hn:n<=y)(code:BoundsCode):(j? (.int k (n:Int)) y code).run P w=.ok n w:=by
 simp[j?,asIntOf,hn]
def lG{isS:Bool}{len cap:Nat}{lo hi mx:Option Value}{m hh l:Nat}(e:TR mx cap m)(b:TR hi len hh)(a:TR lo 0 l)
  (f:mx=none\/hi≠none) (i:m<=cap) (d:hh<=m) (g:l<=hh):(n! isS len cap lo hi mx).run P w=.ok (l,hh,m) w:=by
 unfold n!;cases mx with
 |none=>
  have e:m=cap:=e;subst e;cases hi with
  |none=>
   have b:hh=len:=b;subst b;cases lo with
   |none=>have a:l=0:=a;subst a;simp
   |some c=>obtain⟨k,rfl⟩:=a;simp[run_sliceBound g]
  |some c=>
   obtain⟨k,rfl⟩:=b;cases lo with
   |none=>have a:l=0:=a;subst a;simp[run_sliceBound d]
   |some c=>obtain⟨k,rfl⟩:=a;simp[run_sliceBound d,run_sliceBound g]
 |some c=>
  obtain⟨k,rfl⟩:=e;cases hi with
  |none=>rcases f with f|f<;>simp at f
  |some c=>
   obtain⟨k,rfl⟩:=b;cases lo with
   |none=>have a:l=0:=a;subst a;simp[run_sliceBound i,run_sliceBound d]
   |some c=>obtain⟨k,rfl⟩:=a;simp[run_sliceBound i,run_sliceBound d,run_sliceBound g]
def Bj(x:V)(lo hi:Option V)(h:Hp):R V:=match x with
 | .str s=>iM hi s.length λhh=>iM lo 0 λl=>
  (match q! hh s.length,q! l hh with
  |true,true=>.ok (.str (takeN (hh - l) (atC l s))) h
  |_,_=>.bad)
 |_=>.bad
def moved(sz o l m:Nat):Nat:=match l! m l with|true=>o|false=>o+l*sz
def aty(mx hi:Option V):Bool:=match mx with
 |none=>true
 |some _=>(match hi with|none=>false|some _=>true)
def XQ(sz:Nat)(i:Pos)(o len top:Nat)(lo hi:Option V)(h:Hp)(m:Nat):R V:=
 iM hi len λhh=>iM lo 0 λl=>
  match q! m top,q! hh m,q! l hh with
  |true,true,true=>eG (moved sz o l m) λq=>eG (hh - l) λn=>.ok (.slice i q n (.kn (m - l))) h
  |_,_,_=>.bad
def ag4(sz:Nat)(i:Pos)(o len u:Nat)(lo hi:Option V)(h:Hp):R V:=
 iM hi len λhh=>iM lo 0 λl=>
  match q! hh len,q! l hh,l! u sz with
  |true,true,true=>(match l with
   |0=>.ok (.slice i o hh (.un u)) h
   |l+1=>(match K! (l+1) len with
    |true=>eG (o+(l+1)*sz) λq=>eG (hh - (l+1)) λn=>.ok (.slice i q n (.un u)) h
    |false=>.ok .emp h))
  |_,_,_=>.bad
def Oz(v:V)(lo hi:Option V)(h:Hp)(m:Nat):R V:=
 iM hi 0 λhh=>iM lo 0 λl=>match m,hh,l with|0,0,0=>.ok v h|_,_,_=>.bad
def al4(sz:Nat)(x:V)(lo hi mx:Option V)(h:Hp):R V:=
 match x with
 | .slice i o len cap=>(match cap with
  | .kn c=>iM mx c (XQ sz i o len c lo hi h)
  | .un u=>(match mx with
   |none=>ag4 sz i o len u lo hi h
   |some a=>lS a (XQ sz i o len len lo hi h)))
 | .aQ=>iM mx 0 (Oz .aQ lo hi h)
 | .emp=>(match mx with
  |none=>Oz .emp lo hi h 0
  |some _=>.bad)
 |_=>.bad
def eP(sz:Nat)(x:V)(lo hi mx:Option V)(h:Hp):R V:=
 match aty mx hi with
 |true=>al4 sz x lo hi mx h
 |false=>.bad
def ZT(sz:Nat)(i:Pos)(o u l hh:Nat)(h:Hp):R V:=
 dR h i λ_ cs=>(match gJ (hh*sz) (fG o cs),K! l hh,l! u sz,l! sz 0 with
  |some _,true,true,false=>eG (o+l*sz) λq=>eG (hh - l) λn=>R.ok (.slice i q n (.un u)) h
  |_,_,_,_=>.bad)
def FY(sz:Nat)(x lo hi:V)(h:Hp):R V:=match x with
 | .slice i o len cap=>(match cap with
  | .kn _=>eP sz x (some lo) (some hi) none h
  | .un u=>lS hi λhh=>lS lo λl=>(match q! hh len with
   |true=>eP sz x (some lo) (some hi) none h
   |false=>ZT sz i o u l hh h))
 |_=>eP sz x (some lo) (some hi) none h
def ahh(sz:Nat)(x:V)(lo hi mx:Option V)(h:Hp):R V:=match mx with
 |some m=>eP sz x lo hi (some m) h
 |none=>(match lo with
  |some l=>(match hi with
   |some hh=>FY sz x l hh h
   |none=>eP sz x (some l) none none h)
  |none=>eP sz x none hi none h)
def OC(sz len:Nat)(x:V)(lo hi mx:Option V)(h:Hp):R V:=
 match aty mx hi with
 |true=>tY x λi o=>iM mx len (XQ sz i o len len lo hi h)
 |false=>.bad
def aii(s:List Nat)(l hh:Nat):(bts s).extract l hh=bts ((s.drop l).take (hh - l)):=by
 apply x!;apply J!;simp[bts,ByteArray.data_extract,List.map_take,List.map_drop,List.extract_eq_take_drop]
def axX{t:TypeId}(ht:P.underlying t=some .string){x:V}{a:Value}{lo hi:Option V}{f d:Option Value}(p:Rel G M h w)(u:Rp M x a)(k:pF M lo f)(j:pF M hi d)
  (e:Bj x lo hi h=.ok r h'):Good P G M h w (e! t a f d none) r h':=by
 unfold Bj at e;split at e
 ·rename_i s;obtain⟨q,rfl⟩:=u.str;obtain⟨hh,b1,e⟩:=oP j e;obtain⟨l,b2,e⟩:=oP k e;split at e
  ·rename_i n o;cases e;have g:hh<=s.length:=b! n;have i:l<=hh:=b! o;have hb:=lG (P:=P) (w:=w) (isS:=false) (len:=s.length) (cap:=s.length) (mx:=none) (m:=s.length) rfl b1 b2 (.inl rfl) (h! _) g i;refine .same p (c:=.string (bts ((s.drop l).take (hh - l)))) ?_ ?_
   ·simp[e!,x?,run_underlying ht,lM,hb,aii]
   ·rw[aF1,aG0];exact Ub λb hb=>q b (List.mem_of_mem_drop (List.mem_of_mem_take hb))
  ·cases e
 ·cases e
def ava(L:Loc)(sz o l m:Nat):(if m=l then L.at o else(L.at o).add (l*sz))=L.at (moved sz o l m):=by
 unfold moved;cases hb:l! m l with
 |true=>rw[if_pos (c! hb)]
 |false=>rw[if_neg (S! hb),Loc.IA]
def OA{t el:TypeId}{ti:TypeInfo}(ht:P.underlying t=some (.slice el))(e:P.info? el=some ti){a:Option Addr}{len cap l hh m:Nat}{c b d:Option Value}
  (hb:(n! true len cap c b d).run P w=.ok (l,hh,m) w):
  (e! t (.slice a len cap) c b d).run P w=.ok (.slice (if m=l then a else a.map (·.add (l*ti.size))) (hh - l) (m - l)) w:=by
 simp[e!,x?,run_underlying ht,hb,sizeOf,typeInfo,e]
def auR{mx hi:Option V}{b a:Option Value}(d:pF M mx b)(c:pF M hi a)(h:aty mx hi=true):b=none\/a≠none:=by
 cases mx<;>cases hi<;>cases b<;>cases a<;>simp_all[pF,aty]
def aev{sz:Nat}{i:Pos}{o len top m:Nat}{lo hi:Option V}{c a b:Option Value}(f:pF M lo c)(d:pF M hi a)(p:b=none\/a≠none)
  {cap:Nat} (b1:TR b cap m) (ht:top<=cap) {isS:Bool} (e:XQ sz i o len top lo hi h m=.ok r h'):
  ∃hh l,hh<=m/\(n! isS len cap c a b).run P w=.ok (l,hh,m) w/\h'=h/\r=.slice i (moved sz o l m) (hh - l) (.kn (m - l)):=by
 obtain⟨hh,b2,e⟩:=oP d e;obtain⟨l,j,e⟩:=oP f e;split at e
 ·rename_i k g n;rw[dF,dF]at e;cases e;exact⟨hh,l,b! g,lG b1 b2 j p (Nat.le_trans (b! k) ht) (b! g) (b! n),rfl,rfl⟩
 ·cases e
def aeu{v:V}{m:Nat}{lo hi:Option V}{d b a:Option Value}(j:pF M lo d)(i:pF M hi b)(g:a=none\/b≠none)
  {cap:Nat} (b1:a=none\/TR a 0 m) {isS:Bool} (e:Oz v lo hi h m=.ok r h'):
  ∃m',(m'=0\/m'=cap)/\(n! isS 0 cap d b a).run P w=.ok (0,0,m') w/\h'=h/\r=v:=by
 obtain⟨hh,b2,e⟩:=oP i e;obtain⟨l,f,e⟩:=oP j e;split at e
 ·cases e;rcases b1 with rfl|b1
  ·exact⟨cap,.inr rfl,lG rfl b2 f g (h! _) (W! _) (h! _),rfl,rfl⟩
  ·cases a with
   |none=>exact⟨cap,.inr rfl,lG rfl b2 f g (h! _) (W! _) (h! _),rfl,rfl⟩
   |some c=>exact⟨0,.inl rfl,lG b1 b2 f g (W! _) (h! _) (h! _),rfl,rfl⟩
 ·cases e
def ZR{t el:TypeId}{ti:TypeInfo}(ht:P.underlying t=some (.slice el))(s:P.info? el=some ti){x:V}{a:Value}{lo hi mx:Option V}{p n d:Option Value}(z:Rel G M h w)(E:Rp M x a)
  (j:pF M lo p) (g:pF M hi n) (f:pF M mx d) (e:eP ti.size x lo hi mx h=.ok r h'):Good P G M h w (e! t a p n d) r h':=by
 unfold eP at e;split at e
 case h_2=>cases e
 rename_i Q;have D:=auR f g Q;clear Q;have key:∀{i:Pos} {o len cap hh l m:Nat} {L:Loc},hh<=m->M i=some L->(n! true len cap p n d).run P w=.ok (l,hh,m) w->
   Good P G M h w (e! t (.slice (some (L.at o)) len cap) p n d) (.slice i (moved ti.size o l m) (hh - l) (.kn (m - l))) h:=by
  intro i o len cap hh l m L q y hb;refine .same z (OA ht s hb) ?_;have:=ava L ti.size o l m
  rw[show(if m=l then some (L.at o) else(some (L.at o)).map (·.add (l*ti.size)))=some (L.at (moved ti.size o l m)) from by rw[<-this];split<;>rfl];exact iZ y ⟨rfl,by omega⟩
 cases x with
 |slice i o len cap=>
  obtain⟨L,k,y,v,rfl⟩:=E.slice;cases cap with
  |kn c=>
   have hk:k=c:=v.1;subst hk;obtain⟨m,b1,e1⟩:=oP f e;obtain⟨hh,l,q,hb,rfl,rfl⟩:=aev (P:=P) (w:=w) (isS:=true) j g D b1 (h! _) e1;exact key q y hb
  |un u=>
   obtain⟨aa,K⟩:=v;cases mx with
   |none=>
    cases d with
    |some _=>exact f.elim
    |none=>
    have e:ag4 ti.size i o len u lo hi h=.ok r h':=e;obtain⟨hh,b2,e1⟩:=oP g e;obtain⟨l,S,e1⟩:=oP j e1;split at e1
    ·rename_i U X Y;have W:=b! U;have H:=b! X;have I:u=ti.size:=c! Y;subst I;have hb:=lG (P:=P) (w:=w) (isS:=true) (len:=len) (cap:=k) (mx:=none) (m:=k) rfl b2 S (.inl rfl) (h! _) (by omega) H;have b:=OA (a:=some (L.at o)) ht s hb;cases l with
     |zero=>
      cases e1;have e0:(if k=0 then some (L.at o) else(some (L.at o)).map (·.add (0*ti.size)))=some (L.at o):=by
       split
       ·rfl
       ·simp[Addr.add]
      rw[e0]at b;exact .same z b (iZ y ⟨by omega,by simpa using K⟩)
     |succ l=>
      simp only[]at e1;split at e1
      ·rename_i C;have J:l+1<len:=by simpa[E!]using C
       rw[dF,dF]at e1;cases e1;rw[if_neg (by omega)]at b;have e0:(some (L.at o)).map (·.add ((l+1)*ti.size))=some (L.at (o+(l+1)*ti.size)):=by simp[Loc.IA]
       rw[e0]at b;refine .same z b (iZ y ⟨by omega,?_⟩);have e2:(k - (l+1))*ti.size+(l+1)*ti.size=k*ti.size:=by rw[<-i!];congr 1;omega
       omega
      ·rename_i C;have J:¬l+1<len:=λN=>by
        have:K! (l+1) len=true:=by simpa[E!]using N
        rw[this]at C;cases C
       cases e1;have hz:hh - (l+1)=0:=by omega
       rw[hz]at b;refine .same z b ?_;split
       ·exact⟨rfl,_,_,rfl⟩
       ·exact⟨rfl,_,_,rfl⟩
    ·cases e1
   |some mv=>
    cases d with
    |none=>exact f.elim
    |some c=>
    obtain⟨k',m,rfl,e1⟩:=pR e;have Z:=Rp.int f;obtain⟨hh,l,q,hb,rfl,rfl⟩:=aev (P:=P) (w:=w) (isS:=true) (cap:=k) j g D ⟨k',Z⟩ (by omega) e1;exact key q y hb
 |aQ=>
  cases E.aQ;obtain⟨m,b1,e1⟩:=oP f e;obtain⟨m',B,hb,rfl,rfl⟩:=aeu (P:=P) (w:=w) (isS:=true) (cap:=0) j g D (.inr b1) e1;have O:m'=0:=by rcases B with h|h<;>exact h
  subst O;exact .same z (OA ht s hb) (by simpa using E)
 |emp=>
  obtain⟨ad,k,rfl⟩:=E.emp;cases mx with
  |some _=>cases e
  |none=>
   cases d with
   |some _=>exact f.elim
   |none=>
   obtain⟨m',B,hb,rfl,rfl⟩:=aeu (P:=P) (w:=w) (isS:=true) (cap:=k) j g D (.inl rfl) e;refine .same z (OA ht s hb) ?_;split
   ·exact⟨rfl,_,_,rfl⟩
   ·exact⟨rfl,_,_,rfl⟩
 |_=>cases e
def aDQ{t el:TypeId}{ti:TypeInfo}(ht:P.underlying t=some (.slice el))(N:P.info? el=some ti){x:V}{a:Value}{lo hi:V}{f d:Value}(Y:Rel G M h w)(y:Rp M x a)
  (I:Rp M lo f) (C:Rp M hi d) (e:FY ti.size x lo hi h=.ok r h'):Good P G M h w (e! t a (some f) (some d) none) r h':=by
 have old:eP ti.size x (some lo) (some hi) none h=.ok r h'->Good P G M h w (e! t a (some f) (some d) none) r h':=
  λe=>ZR ht N Y y (lo:=some lo) (hi:=some hi) (mx:=none) I C trivial e
 cases x with
 |slice i o len cap=>
  cases cap with
  |kn c=>exact old e
  |un u=>
   obtain⟨k1,hh,rfl,e1⟩:=pR (show lS hi _=_ from e);obtain⟨k2,l,rfl,e2⟩:=pR e1;split at e2
   ·exact old e2
   ·obtain⟨L,k,hL,B,rfl⟩:=y.slice;obtain⟨ab,ac⟩:=B;unfold ZT dR at e2;have J:=Rp.int I;have D:=Rp.int C;have key:∀{cs:List V} {wr:Wr},(h.get i).bind Ob.row=some (wr,cs)->(match gJ (hh*ti.size) (fG o cs),K! l hh,l! u ti.size,l! ti.size 0 with
      |some _,true,true,false=>eG (o+l*ti.size) λq=>eG (hh - l) λn=>R.ok (V.slice i q n (.un u)) h
      |_,_,_,_=>.bad)=.ok r h'->Good P G M h w (e! t (.slice (some (L.at o)) len k) (some f) (some d) none) r h':=by
     intro cs wr b O;split at O
     ·rename_i l0 E W hu hz;have K:l<hh:=by simpa[E!]using W
      have Z:u=ti.size:=c! hu;subst Z;have ae:ti.size≠0:=S! hz;rw[dF,dF]at O;cases O;have H:hh*ti.size<=(cs.drop o).length:=by
       rw[jO]at E;exact(TV _ E).1
      have aa:0<hh*ti.size:=X! (by omega) (by omega);rw[List.length_drop]at H;obtain⟨v,hv⟩:∃v,cs[o+(hh*ti.size - 1)]?=some v:=⟨_,P! (by omega)⟩
      have ad:o+(hh*ti.size - 1)+L.off<L.size:=by
       cases j:h.get i with
       |none=>rw[j]at b;cases b
       |some ob=>
        rw[j]at b;obtain⟨L',z,ho⟩:=Y.ob i _ j;rw[hL]at z;cases z;cases ob with
        |cells w0 cs0=>
         cases b;obtain⟨c,Q,fr,hb,hs,S,_⟩:=ho;obtain⟨x,y,_⟩:=S _ _ hv;have:=(o!.1 y).1;omega
        |bytes cs0=>
         cases b;obtain⟨c,Q,fr,hb,hs,S,_⟩:=ho;obtain⟨x,y,_⟩:=S _ _ hv;have:=(o!.1 y).1;omega
        |map es=>cases b
        |iter s p=>cases b
      have U:hh<=k:=by
       rcases Nat.lt_or_ge k hh with X|X
       ·have:k*ti.size+ti.size<=hh*ti.size:=by rw[<-Nat.succ_mul];exact C! _ X
        omega
       ·exact X
      have hb:=lG (P:=P) (w:=w) (isS:=true) (len:=len) (cap:=k) (lo:=some f) (hi:=some d) (mx:=none) (m:=k) (hh:=hh) (l:=l) rfl ⟨_,D⟩ ⟨_,J⟩ (.inl rfl) (h! _) U (Nat.le_of_lt K);have g:=OA (a:=some (L.at o)) ht N hb;rw[if_neg (by omega)]at g;have e0:(some (L.at o)).map (·.add (l*ti.size))=some (L.at (o+l*ti.size)):=by simp[Loc.IA]
      rw[e0]at g;refine .same Y g (iZ hL ⟨by omega,?_⟩);have e2:(k - l)*ti.size+l*ti.size=k*ti.size:=by rw[<-i!];congr 1;omega
      omega
     ·cases O
    cases j:h.get i with
    |none=>rw[j]at e2;cases e2
    |some ob=>
     rw[j]at e2;cases ob with
     |cells w0 cs0=>exact key (wr:=w0) (cs:=cs0) (by rw[j];rfl) e2
     |bytes cs0=>exact key (wr:=.ro) (cs:=cs0) (by rw[j];rfl) e2
     |map es=>cases e2
     |iter s p=>cases e2
 |_=>exact old e
def aDR{t el:TypeId}{ti:TypeInfo}(ht:P.underlying t=some (.slice el))(f:P.info? el=some ti){x:V}{a:Value}{lo hi mx:Option V}{i g j:Option Value}(k:Rel G M h w)(n:Rp M x a)
  (c:pF M lo i) (b:pF M hi g) (d:pF M mx j) (e:ahh ti.size x lo hi mx h=.ok r h'):Good P G M h w (e! t a i g j) r h':=by
 cases mx with
 |some m=>exact ZR ht f k n c b d e
 |none=>
  cases lo with
  |none=>exact ZR ht f k n c b d e
  |some l=>
   cases hi with
   |none=>exact ZR ht f k n c b d e
   |some hh=>
    cases i with
    |none=>exact c.elim
    |some o=>
     cases g with
     |none=>exact b.elim
     |some ch=>
      cases j with
      |some _=>exact d.elim
      |none=>exact aDQ ht f k n c b e
def axZ{t el:TypeId}{n:Nat}{ti:TypeInfo}(ht:P.underlying t=some (.array n el))(p:P.info? el=some ti){x:V}{a:Value}{lo hi mx:Option V}{d b f:Option Value}(y:Rel G M h w)(z:Rp M x a)
  (k:pF M lo d) (g:pF M hi b) (j:pF M mx f) (e:OC ti.size n x lo hi mx h=.ok r h'):Good P G M h w (e! t a d b f) r h':=by
 unfold OC at e;split at e
 case h_2=>cases e
 rename_i q;have s:=auR j g q;clear q;obtain⟨i,o,rfl,e1⟩:=lQ e;obtain⟨L,u,rfl⟩:=z.ptr;obtain⟨m,b1,e1⟩:=oP j e1;obtain⟨hh,l,v,hb,rfl,rfl⟩:=aev (P:=P) (w:=w) (isS:=false) k g s b1 (h! _) e1;refine .same y (c:=.slice (some (L.at (moved ti.size o l m))) (hh - l) (m - l)) ?_ (iZ u ⟨rfl,by omega⟩);simp[e!,run_underlying ht,Instr.sureAddr,hb,sizeOf,typeInfo,p,ava]
def u8s(s:List Nat):List V:=s.map λb=>.int .u8 (.ofNat b)
def qK(sz:Nat)(x:V)(h:Hp)(k:Nat->List V->R V):R V:=
 match x with
 | .aQ=>k 0 []
 | .emp=>k 0 []
 | .slice j p n _=>dR h j λ_ cs=>(match gJ (n*sz) (fG p cs) with|some l=>k n l|none=>.bad)
 | .str s=>(match l! sz 1 with|true=>k s.length (u8s s)|false=>.bad)
 |_=>.bad
def pO(el:TypeId)(sz bt n:Nat)(cs:List V)(h h0:Hp):R V:=
 match q! (B? n bt) 140737488355328 with
 |true=>.ok (.slice h.next 0 n (.un sz)) (h0.new (.cells (.rw el false) cs))
 |false=>.bad
def aHd(sz bt:Nat)(i:Pos)(o len a:Nat)(new cs:List V)(h:Hp):R V:=match h.get i with
 |some ob=>(match ob with
  | .bytes _=>(match gJ (len*sz) (fG o cs) with
   |some old=>(match fG (len*sz) (fG o cs) with
    | []=>(match q! (B? a bt) 140737488355328 with
     |true=>.ok (.slice h.next 0 a (.un sz)) ((h.put i none).new (.bytes (old++new)))
     |false=>.bad)
    |_::_=>.bad)
   |none=>.bad)
  |_=>.bad)
 |none=>.bad
def bZ(el:TypeId)(sz bt:Nat)(s x:V)(h:Hp):R V:=
 qK sz x h λn new=>match n with
 |0=>(match s with
  | .aQ=>.ok .aQ h
  | .emp=>.ok .emp h
  | .slice i o len cap=>.ok (.slice i o len cap) h
  |_=>.bad)
 |m+1=>(match s with
  | .aQ=>pO el sz bt (m+1) new h h
  | .slice i o len cap=>dR h i λwr cs=>eG (len+(m+1)) λa=>(match cap with
   | .kn c=>(match q! a c with
    |true=>(match wr,jK (o+len*sz) new cs with
     | .rw t f,some b=>.ok (.slice i o a (.kn c)) (h.put i (some (.cells (.rw t f) b)))
     |_,_=>.bad)
    |false=>(match gJ (len*sz) (fG o cs) with
     |some old=>pO el sz bt a (old++new) h h
     |none=>.bad))
   | .un u=>(match wr,l! u sz with
    | .rw t f,true=>(match l! t el with
     |true=>(match gJ (len*sz) (fG o cs) with
      |none=>.bad
      |some old=>(match fG (len*sz) (fG o cs) with
       | []=>pO el sz bt a (old++new) h (h.put i none)
       |_::_=>(match jK (o+len*sz) new cs with
        |some b=>.ok (.slice i o a (.un u)) (h.put i (some (.cells (.rw t f) b)))
        |none=>.bad)))
     |false=>.bad)
    | .ro,true=>aHd sz bt i o len a new cs h
    |_,_=>.bad))
  |_=>.bad)
def asM{t t2 ty el:TypeId}{f:TypeDesc}{ti:TypeInfo}(ht:P.underlying t=some (.slice el))(d:P.underlying t2=some f)(g:∀k,f≠ .int k)(e:P.info? el=some ti)
  {base:Option Addr} {n cap m:Nat} {x:Value} (i:(B! x).run P w=.ok m w) {news:List Value} (b:(d! ti.size m x).run P w=.ok news.toArray w) (c:n+m<=cap):
  (g! #[t,t2] ty #[.slice base n cap,x]).run P w=
   (match base with|some a=>((storeCells (a.add (n*ti.size)) news).run P w).andThen λ_ w'=>.ok (.slice base (n+m) cap) w'|none=>.ok (.slice base (n+m) cap) w):=by
 cases base<;>simp[g!,run_underlying ht,run_underlying d,sizeOf,typeInfo,e,i,c,b]
def aoX{t t2 ty el:TypeId}{l:TypeDesc}{ti:TypeInfo}{z:Value}(ht:P.underlying t=some (.slice el))(i:P.underlying t2=some l)(p:∀k,l≠ .int k)(j:P.info? el=some ti)(u:ti.zero=some z)
  {base:Option Addr} {n cap m:Nat} {x:Value} (s:(B! x).run P w=.ok m w) {news a:List Value} (b:(d! ti.size m x).run P w.drew=.ok news.toArray w.drew)
  (c:(d! ti.size n (.slice base n cap)).run P w.drew=.ok a.toArray w.drew) (f:cap<n+m) (hb:(n+m)*ti.bytes<=140737488355328) (g:0<ti.bytes):
  (g! #[t,t2] ty #[.slice base n cap,x]).run P w=
   .ok (.slice (some ⟨w.heap.size,0,none⟩) (n+m) (grownCap w (n+m) cap el)) (w.drew.alloc (.cells (a.toArray++news.toArray++a! z.cells (grownCap w (n+m) cap el - (n+m))) el)):=by
 have hn:¬(n+m<=cap):=by omega
 have q:n+m<=(n+m)*ti.bytes:=r! _ g;have e:¬(9223372036854775807<((n:Int)+(m:Int))):=by omega
 have o:=growslice_fits (bytes:=ti.bytes) f hb;have d:¬(281474976710656<Builtin.nextslicecap (n+m) cap*ti.bytes):=by omega
 simp[g!,run_underlying ht,run_underlying i,sizeOf,typeInfo,zeroValue,j,u,s,hn,e,d,Question.forced,b,c,newRow,grownCap];congr 2;apply J!;simp[List.append_assoc]
def ako(s:ByteArray):(B! (.string s)).run P w=.ok s.size w:=rfl
def ah8{sz:Nat}{x:V}{c:Value}{k:Nat->List V->R V}(D:Rel G M h w)(o:Rp M x c)(e:qK sz x h k=.ok r h'):
  ∃(n:Nat) (new:List V) (news:List Value),k n new=.ok r h'/\(B! c).run P w=.ok n w/\bY M new news/\new.length=n*sz/\(∀y∈news,scalar y=true)/\
   ∀w',w'.heap=w.heap->(d! sz n c).run P w'=.ok news.toArray w':=by
 unfold qK at e;split at e
 ·cases o.aQ;exact⟨0,[],[],e,rfl,rfl,by simp,by simp,λw' _=>by simp[d!]⟩
 ·obtain⟨a,I,rfl⟩:=o.emp;exact⟨0,[],[],e,rfl,rfl,by simp,by simp,λw' _=>by simp[d!,loadCells,loadCellsFrom]⟩
 ·rename_i j p n cap;obtain⟨L,m,B,_,rfl⟩:=o.slice;obtain⟨wr,cs,hi,e1⟩:=gG e;split at e1
  ·rename_i l hl;obtain⟨xs,g,d,u,C⟩:=D.cells hi B hl;have t:l.length=n*sz:=by rw[<-g.length];exact d
   refine⟨n,l,xs,e1,rfl,g,t,u,λw' E=>?_⟩;exact run_firstCells_some w' sz n (L.at p) n m xs d (λj v hj=>by
    rw[<-C j v hj];simp[u?,E])
  ·cases e1
 ·rename_i s;split at e
  ·rename_i z;have q:sz=1:=c! z;subst q;obtain⟨u,rfl⟩:=o.str;refine⟨s.length,u8s s,s.map λb=>.int .u8 (.ofNat b),e,by rw[ako,lM],?_,by simp[u8s],?_,λw' _=>?_⟩
   ·refine bY.mk (by simp[u8s]) (λi v hi=>?_);simp only[u8s,h?]at hi⊢;cases f:s[i]? with
    |none=>rw[f]at hi;cases hi
    |some b=>rw[f]at hi;cases hi;exact⟨_,rfl,gU M _ _⟩
   ·intro y H;obtain⟨b,_,rfl⟩:=u!.1 H;rfl
   ·simp only[d!];show Result.ok _ _=_;congr 1;apply J!;have:((bts s).extract 0 s.length).data.toList=s.map UInt8.ofNat:=by
     rw[aii];simp[bts]
    simp only[t!,this,R!];apply Z!;intro b hb;simp[TT (u b hb)]
  ·cases e
 ·cases e
def Rel.aIc(v:Rel G M h w){i:Pos}{o0:Ob}{L:Loc}(hi:h.get i=some o0)(l:o0.own=true)(E:M i=some L)(o:Nat)(x:Ob){w':World}
  (hs:w'.heap.size=w.heap.size) (n:∀k,k≠L.blk->w'.heap[k]?=w.heap[k]?) (Y:w'.os=w.os) (ht:w'.tape=w.tape) (O:w'.output=w.output)
  (X:∀N:Mp,M.le N->jV N ⟨L.blk,L.off+o,L.size⟩ w' x):
  Rel G (M.add h.next ⟨L.blk,L.off+o,L.size⟩) ((h.put i none).new x) w'/\Ext M h w (M.add h.next ⟨L.blk,L.off+o,L.size⟩) ((h.put i none).new x) w':=by
 have u:M h.next=none:=v.fresh _ (h! _);have m:=Mp.Ut u ⟨L.blk,L.off+o,L.size⟩;have ab:i≠h.next:=v.ne_next E;have J:(h.put i none).next=h.next:=rfl;have get:∀{j:Pos} {p:Ob},j≠h.next->((h.put i none).new x).get j=some p->j≠i/\h.get j=some p:=by
  intro j p hj c;rw[Hp.jr _ (by rw[J];exact hj)]at c;by_cases e:j=i
  ·subst e;rw[h.dQ]at c;cases c
  ·rw[h.dw e]at c;exact⟨e,c⟩
 have C:((h.put i none).new x).get h.next=some x:=Hp.qM (h.put i none) _;have keep:∀{j:Pos} {p:Ob} {K:Loc},j≠i->h.get j=some p->M j=some K->K.blk≠L.blk:=λhj c f e=>
  v.sep i _ _ _ L _ (Ne.symm hj) hi c l E f e.symm
 refine⟨⟨λj p c=>?_,λj hj=>?_,λa b p q A B hn ha hb Z D z=>?_,λg c=>?_⟩,⟨m,?_,Y,ht,O,by omega,λk hk W=>n k (λe=>W i _ L hi l E e.symm),λj p K c Z f=>?_,λj hj hn=>?_,λj p K c f=>?_,λj hj hn=>?_⟩⟩
 ·by_cases e:j=h.next
  ·subst e;rw[C]at c;cases c;exact⟨_,M.fB _ _,X _ m⟩
  ·obtain⟨t,d⟩:=get e c;obtain⟨K,f,Q⟩:=v.ob j p d;exact⟨K,by rw[M.gy e];exact f,(Q.of_block (n _ (keep t d f))).mono m⟩
 ·have aa:((h.put i none).new x).next.nat=h.next.nat+1:=Pos.fA _;rw[aa]at hj;have e:j≠h.next:=λe=>by rw[e]at hj;omega
  rw[M.gy e];exact v.fresh j (by omega)
 ·by_cases S:a=h.next
  ·subst S;rw[M.fB]at D;cases D;have y:b≠h.next:=λe=>hn e.symm;obtain⟨I,s⟩:=get y hb;rw[M.gy y]at z;exact λe=>keep I s z e.symm
  ·obtain⟨U,H⟩:=get S ha;rw[M.gy S]at D;by_cases y:b=h.next
   ·subst y;rw[M.fB]at z;cases z;exact keep U H D
   ·obtain⟨I,s⟩:=get y hb;rw[M.gy y]at z;exact v.sep a b p q A B hn H s Z D z
 ·obtain⟨n',d⟩:=v.gl g c;exact⟨n',m _ _ d⟩
 ·show h.next.nat<=h.next.succ.nat;rw[Pos.fA];omega
 ·by_cases e:j=h.next
  ·subst e;rw[M.fB]at f;cases f;exact .inr ⟨i,_,L,hi,l,E,rfl⟩
  ·obtain⟨t,d⟩:=get e c;rw[M.gy e]at f;exact .inr ⟨j,p,K,d,Z,f,rfl⟩
 ·have e:j≠h.next:=λe=>by rw[e]at hj;omega
  rw[Hp.jr _ (by rw[J];exact e)];by_cases e2:j=i
  ·subst e2;exact h.dQ _ _
  ·rw[h.dw e2];exact hn
 ·by_cases e:j=h.next
  ·subst e;rw[M.fB]at f;cases f;exact .inr ⟨i,_,L,hi,E,rfl⟩
  ·obtain⟨t,d⟩:=get e c;rw[M.gy e]at f;exact .inr ⟨j,p,K,d,f,rfl⟩
 ·have e:j≠h.next:=λe=>by rw[e]at hj;omega
  rw[M.gy e];exact hn
def Rel.over(g:Rel G M h w){i:Pos}{cs:List V}{L:Loc}{t t':TypeId}{f f':Bool}(hi:h.get i=some (.cells (.rw t f) cs))(e:M i=some L)(o:Nat)(vs:List V){w':World}
  (j:w'.heap.size=w.heap.size) (a:∀k,k≠L.blk->w'.heap[k]?=w.heap[k]?) (d:w'.os=w.os) (ht:w'.tape=w.tape) (b:w'.output=w.output)
  (c:∀N:Mp,M.le N->jV N ⟨L.blk,L.off+o,L.size⟩ w' (.cells (.rw t' f') vs)):
  Rel G (M.add h.next ⟨L.blk,L.off+o,L.size⟩) ((h.put i none).new (.cells (.rw t' f') vs)) w'/\Ext M h w (M.add h.next ⟨L.blk,L.off+o,L.size⟩) ((h.put i none).new (.cells (.rw t' f') vs)) w':=
 g.aIc hi rfl e o _ j a d ht b c
def auA{b a:Nat}{c:Array Value}{el:TypeId}{fr:Nat×Nat}{xs:List Value}(hb:w.heap[b]?=some (.cells c el fr))(l:∀j,j<xs.length->a+j<c.size)
  (s:∀j,j<xs.length->¬(fr.1<=a+j/\a+j<fr.2)) (i:∀x∈xs,scalar x=true):
  ∃w' d,(storeCells ⟨b,a,none⟩ xs).run P w=.ok () w'/\w'.heap[b]?=some (.cells d el fr)/\d.size=c.size/\(∀k,d[k]?=if a<=k/\k<a+xs.length then xs[k - a]? else c[k]?)/\
   (∀k,k≠b->w'.heap[k]?=w.heap[k]?)/\w'.heap.size=w.heap.size/\w'.os=w.os/\w'.tape=w.tape/\w'.output=w.output:=by
 have f:=run_storeCells_cells (P:=P) b a xs 0 w
  (λj hj=>by
   have:=l j hj;simp[u?,hb,this])
  (λj hj=>by
   have:=s j hj;simp[World.frozen?,hb];omega)
  (λv H=>Sj (i v H))
 simp only[C?]at f;have key:∀(xs:List Value) (a:Nat) (c:Array Value) (w:World),w.heap[b]?=some (.cells c el fr)->(∀j,j<xs.length->a+j<c.size)->
   ∃d,(w.setCells b a xs).heap[b]?=some (.cells d el fr)/\d.size=c.size/\(∀k,d[k]?=if a<=k/\k<a+xs.length then xs[k - a]? else c[k]?):=by
  intro xs;induction xs with
  |nil=>intro a c w t _;exact⟨c,t,rfl,λk=>by rw[if_neg (by simp<;>omega)]⟩
  |cons x xs o=>
   intro a c w t m;have u:(w.setCell ⟨b,a,none⟩ x).heap[b]?=some (.cells (c.setIfInBounds a x) el fr):=by
    simp[q?,w!,t]
   obtain⟨d,i,p,q⟩:=o (a+1) (c.setIfInBounds a x) _ u (λj hj=>by have:=m (j+1) (by simp;omega);simp;omega);refine⟨d,i,by simpa using p,λk=>?_⟩;rw[q k];have E:=m 0 (by simp)
   by_cases e:k=a
   ·subst e;rw[if_neg (by omega),if_pos (by simp)];rw[z?,y! (by simpa using E)];rfl
   ·by_cases hk:a+1<=k/\k<a+1+xs.length
    ·rw[if_pos hk,if_pos (by simp;omega),show k - a=(k - (a+1))+1 from by omega];simp
    ·rw[if_neg hk,if_neg (by simp at hk⊢;omega),F! (by omega)]
 have n:∀(xs:List Value) (a:Nat) (w:World) (k:Nat),k≠b->(w.setCells b a xs).heap[k]?=w.heap[k]?:=by
  intro xs;induction xs with
  |nil=>intros;rfl
  |cons x xs o=>intro a w k hk;rw[l?,o _ _ _ hk];exact Go.RowKit.Below.heap_setCell _ _ _ _ hk
 have g:∀(xs:List Value) (a:Nat) (w:World),(w.setCells b a xs).heap.size=w.heap.size/\(w.setCells b a xs).os=w.os/\(w.setCells b a xs).tape=w.tape/\(w.setCells b a xs).output=w.output:=by
  intro xs;induction xs with
  |nil=>intros;exact⟨rfl,rfl,rfl,rfl⟩
  |cons x xs o=>intro a w;obtain⟨i,p,q,D⟩:=o (a+1) (w.setCell ⟨b,a,none⟩ x);exact⟨by rw[l?,i];simp[q?],p,q,D⟩
 obtain⟨d,I,J,K⟩:=key xs a c w hb l;obtain⟨y,z,B,C⟩:=g xs a w;exact⟨_,d,f,I,J,K,λk hk=>n xs a w k hk,y,z,B,C⟩
structure ElemOk (P:Program) (el:TypeId) (ti:TypeInfo) (z:Value):Prop where
 info:P.info? el=some ti
 zero:ti.zero=some z
 cells:z.cells.size=ti.size
 plain:∀y∈z.cells.toList,scalar y=true
 size:0<ti.size
 bytes:0<ti.bytes
def PS{z:Array Value}(d:∀y∈z.toList,scalar y=true)(c:0<z.size)(n:Nat):∀y∈(a! z n).toList,scalar y=true:=by
 intro y b;simp only[a!,t!,u!]at b;obtain⟨i,_,rfl⟩:=b;have a:i % z.size<z.size:=E? _ c;rw[getElem!_pos z _ a];exact d _ (by simp)
def avv{el:TypeId}{ti:TypeInfo}{z:Value}(E:ElemOk P el ti z){h0:Hp}(l:Rel G M h0 w)(f:h0.next=h.next){n C:Nat}{vs:List V}{xs:List Value}(i:bY M vs xs)(hl:vs.length=n*ti.size)(j:∀y∈xs,scalar y=true)
  (k:n<=C) (c:n<=9223372036854775807->C<=9223372036854775807) (e:pO el ti.size ti.bytes n vs h h0=.ok r h'):
  ∃M',Rp M' r (.slice (some ⟨w.heap.size,0,none⟩) n C)/\Rel G M' h' (w.drew.alloc (.cells (xs.toArray++a! z.cells (C - n)) el))/\
   Ext M h0 w M' h' (w.drew.alloc (.cells (xs.toArray++a! z.cells (C - n)) el))/\n*ti.bytes<=140737488355328:=by
 unfold pO at e;split at e
 ·rename_i hb;cases e;have d:n*ti.bytes<=140737488355328:=b! hb;have b:=i.length;have g:(xs.toArray++a! z.cells (C - n)).size=C*ti.size:=by
   rw[d?,size_zeroCells,E.cells,g?,b,hl,<-i!];congr 1;omega
  have:=l.row vs (xs.toArray++a! z.cells (C - n)) el (0,0) (w':=w.drew.alloc (.cells (xs.toArray++a! z.cells (C - n)) el))
   (by simp only[D!];rw[<-b,List.take_left];exact i)
   (λy a=>by
    simp only[D!,I!]at a;rcases a with a|a
    ·exact j y a
    ·exact PS E.plain (by rw[E.cells];exact E.size) _ y a)
   (by simp) false (λh=>by cases h) rfl rfl rfl rfl
  refine⟨_,?_,this.1,this.2,d⟩;have hk:(M.add h0.next ⟨w.heap.size,0,(xs.toArray++a! z.cells (C - n)).size⟩) h.next=some ⟨w.heap.size,0,(xs.toArray++a! z.cells (C - n)).size⟩:=by
   rw[<-f];exact M.fB _ _
  have hn:n<=n*ti.bytes:=r! _ E.bytes;exact iZ (o:=0) hk ⟨⟨k,c (by omega)⟩,by show 0+0+C*ti.size=(xs.toArray++a! z.cells (C - n)).size;rw[g];omega⟩
 ·cases e
def aEg{el:TypeId}{ti:TypeInfo}{z:Value}(E:ElemOk P el ti z){h0:Hp}(p:Rel G M h0 w)(e:h0.next=h.next){n C:Nat}{vs:List V}{xs:List Value}(j:bY M vs xs)(hl:vs.length=n*ti.size)(l:∀y∈xs,scalar y=true)
  (m:n<=C) (b:C<=9223372036854775807):
  ∃M',Rp M' (.slice h.next 0 n (.un ti.size)) (.slice (some ⟨w.heap.size,0,none⟩) n C)/\Rel G M' (h0.new (.bytes vs)) (w.drew.alloc (.cells (xs.toArray++a! z.cells (C - n)) el))/\
   Ext M h0 w M' (h0.new (.bytes vs)) (w.drew.alloc (.cells (xs.toArray++a! z.cells (C - n)) el)):=by
 have i:=j.length;have g:(xs.toArray++a! z.cells (C - n)).size=C*ti.size:=by
  rw[d?,size_zeroCells,E.cells,g?,i,hl,<-i!];congr 1;omega
 have:=p.new (.bytes vs) (.cells (xs.toArray++a! z.cells (C - n)) el (0,0)) (xs.toArray++a! z.cells (C - n)).size (w':=w.drew.alloc (.cells (xs.toArray++a! z.cells (C - n)) el))
  rfl rfl rfl rfl (λN c=>⟨_,el,(0,0),by simp only[v?];exact N!,rfl,λk v hk=>by
   obtain⟨x,a,f⟩:=j.get hk;have d:=(p!.1 a).1;refine⟨x,?_,f.mono c,l x (j! a)⟩;show(xs.toArray++a! z.cells (C - n))[0+k]?=some x;rw[G!,Array.getElem?_append_left (by simpa using d)];simpa using a,λk _ _ h=>by simp at h⟩)
 have hk:(M.add h0.next ⟨w.heap.size,0,(xs.toArray++a! z.cells (C - n)).size⟩) h.next=some ⟨w.heap.size,0,(xs.toArray++a! z.cells (C - n)).size⟩:=by
  rw[<-e];exact M.fB _ _
 exact⟨_,iZ (o:=0) hk ⟨⟨m,b⟩,by show 0+0+C*ti.size=(xs.toArray++a! z.cells (C - n)).size;rw[g];omega⟩,this.1,this.2.1⟩
def ahy(el:TypeId)(sz bt:Nat)(s:V)(n:Nat)(new:List V)(h:Hp):R V:=match n with
 |0=>(match s with
  | .aQ=>.ok .aQ h
  | .emp=>.ok .emp h
  | .slice i o len cap=>.ok (.slice i o len cap) h
  |_=>.bad)
 |m+1=>(match s with
  | .aQ=>pO el sz bt (m+1) new h h
  | .slice i o len cap=>dR h i λwr cs=>eG (len+(m+1)) λa=>(match cap with
   | .kn c=>(match q! a c with
    |true=>(match wr,jK (o+len*sz) new cs with
     | .rw t f,some b=>.ok (.slice i o a (.kn c)) (h.put i (some (.cells (.rw t f) b)))
     |_,_=>.bad)
    |false=>(match gJ (len*sz) (fG o cs) with
     |some old=>pO el sz bt a (old++new) h h
     |none=>.bad))
   | .un u=>(match wr,l! u sz with
    | .rw t f,true=>(match l! t el with
     |true=>(match gJ (len*sz) (fG o cs) with
      |none=>.bad
      |some old=>(match fG (len*sz) (fG o cs) with
       | []=>pO el sz bt a (old++new) h (h.put i none)
       |_::_=>(match jK (o+len*sz) new cs with
        |some b=>.ok (.slice i o a (.un u)) (h.put i (some (.cells (.rw t f) b)))
        |none=>.bad)))
     |false=>.bad)
    | .ro,true=>aHd sz bt i o len a new cs h
    |_,_=>.bad))
  |_=>.bad)
def au6(el:TypeId)(sz bt:Nat)(s x:V)(h:Hp):bZ el sz bt s x h=qK sz x h λn new=>ahy el sz bt s n new h:=rfl
def aij{t t2 ty el:TypeId}{ti:TypeInfo}{z:Value}(E:ElemOk P el ti z)
  {s:V} {a c:Value} {n:Nat} {new:List V} {news:List Value} (J:Rel G M h w) (hs:Rp M s a) (l:bY M new news) (U:new.length=n*ti.size) (H:∀y∈news,scalar y=true)
  (f:∀{base:Option Addr} {k cap:Nat},k+n<=cap->(g! #[t,t2] ty #[.slice base k cap,c]).run P w=
   (match base with|some a=>((storeCells (a.add (k*ti.size)) news).run P w).andThen λ_ w'=>.ok (.slice base (k+n) cap) w'|none=>.ok (.slice base (k+n) cap) w))
  (aa:∀{d:List Value} {base:Option Addr} {k cap:Nat},(d! ti.size k (.slice base k cap)).run P w.drew=.ok d.toArray w.drew->cap<k+n->(k+n)*ti.bytes<=140737488355328->0<ti.bytes->
   (g! #[t,t2] ty #[.slice base k cap,c]).run P w=
    .ok (.slice (some ⟨w.heap.size,0,none⟩) (k+n) (grownCap w (k+n) cap el)) (w.drew.alloc (.cells (d.toArray++news.toArray++a! z.cells (grownCap w (k+n) cap el - (k+n))) el)))
  (e:ahy el ti.size ti.bytes s n new h=.ok r h'):Good P G M h w (g! #[t,t2] ty #[a,c]) r h':=by
 unfold ahy at e;have ay:w.drew.heap=w.heap:=rfl;have Z:=l.length;cases n with
 |zero=>
  have aL:news= []:=by
   have:news.length=0:=by rw[Z,U];omega
   exact List.length_eq_zero_iff.1 this
  subst aL;simp only[]at e;split at e
  ·cases e;cases hs.aQ;refine .same J (c:=.slice none 0 0) ?_ hs;rw[@f _ _ _ (by omega)]
  ·cases e;obtain⟨ad,k,rfl⟩:=hs.emp;refine .same J (c:=.slice (some ad) 0 k) ?_ hs;rw[@f _ _ _ (by omega)];rfl
  ·cases e;obtain⟨L,k,W,hc,rfl⟩:=hs.slice;refine .same J (c:=.slice (some (L.at _)) _ k) ?_ hs;rw[@f _ _ _ (by rename_i cap;cases cap<;>simp only[ahQ]at hc<;>omega)];rfl
  ·cases e
 |succ m=>
  simp only[]at e;split at e
  ·
   cases hs.aQ;obtain⟨M',h1,h2,h3,h4⟩:=avv (n:=m+1) (C:=grownCap w (0+(m+1)) 0 el) E J rfl l U H (by have:=grownCap_ge w (0+(m+1)) 0 el;omega) (λhh=>grownCap_le_maxLen _ _ _ _ (by rw[G!];exact hh)) e;refine⟨_,_,M',?_,h1,h2,h3⟩;have:= @aa [] (none) 0 0 (by simp[d!]) (by omega) (by rw[G!];exact h4) E.bytes
   rw[this];simp
  ·rename_i i o len cap;obtain⟨L,k,W,hc,rfl⟩:=hs.slice;obtain⟨wr,cs,hi,e1⟩:=gG e;clear e;rw[dF]at e1;have e:=e1;clear e1;have al:∀{am:List V} {t0:TypeId} {f0:Bool},wr=.rw t0 f0->jK (o+len*ti.size) new cs=some am->len+(m+1)<=k->∀cp,ahQ L o (len+(m+1)) cp k->R.ok (V.slice i o (len+(m+1)) cp) (h.put i (some (.cells (.rw t0 f0) am)))=.ok r h'->
     Good P G M h w (g! #[t,t2] ty #[.slice (some (L.at o)) len k,c]) r h':=by
    intro am t0 f0 hw hp b cp ax e2;subst hw;cases e2;obtain⟨w',g1,g2,g3⟩:=J.store (P:=P) (qL hi) W hp l H;refine⟨.slice (some (L.at o)) (len+(m+1)) k,w',M,?_,iZ W ax,g2,g3⟩;rw[@f _ _ _ b];simp only[Loc.IA,g1];rfl
   have ak:∀{old:List V} {h0:Hp},gJ (len*ti.size) (fG o cs)=some old->Rel G M h0 w->h0.next=h.next->Ext M h w M h0 w->k<len+(m+1)->
     pO el ti.size ti.bytes (len+(m+1)) (old++new) h h0=.ok r h'->Good P G M h w (g! #[t,t2] ty #[.slice (some (L.at o)) len k,c]) r h':=by
    intro old h0 ho aR aM av aE e2;obtain⟨d,O,Q,af,ag⟩:=J.cells hi W ho;have ai:old.length=len*ti.size:=by rw[<-O.length];exact Q
    obtain⟨M',h1,h2,h3,h4⟩:=avv (n:=len+(m+1)) (C:=grownCap w (len+(m+1)) k el) E aR aM (bY.append O l) (by rw[a?,ai,U,<-i!])
     (λy hy=>(I!.1 hy).elim (af y) (H y)) (grownCap_ge _ _ _ _) (λhh=>grownCap_le_maxLen _ _ _ _ hh) e2
    refine⟨_,_,M',?_,h1,h2,av.trans h3⟩;have:= @aa d (some (L.at o)) len k
     (run_firstCells_some _ _ _ _ _ _ d Q (λj v hj=>by rw[<-ag j v hj];rfl)) aE h4 E.bytes
    rw[this];simp
   cases cap with
   |kn cc=>
    obtain⟨rfl,a5⟩:=hc;simp only[]at e;split at e
    ·rename_i b;split at e
     ·rename_i hp;exact al rfl hp (b! b) (.kn k) ⟨rfl,b! b⟩ e
     ·cases e
    ·rename_i b;split at e
     ·rename_i old ho;refine ak ho J rfl (.refl J) ?_ e;have:¬len+(m+1)<=k:=λhh=>by rw[Nat.ble_eq_true_of_le hh]at b;cases b
      omega
     ·cases e
   |un u=>
    obtain⟨ao,aB⟩:=hc;simp only[]at e;split at e
    ·rename_i hu;have aq:u=ti.size:=c! hu;subst aq;rename_i t0 f0;split at e;rotate_left
     ·cases e
     rename_i a0;have aw:t0=el:=c! a0;subst aw;split at e
     ·cases e
     ·rename_i old ho;split at e
      ·rename_i hd;by_cases b:len+(m+1)<=k
       ·obtain⟨L',B,cc,ae,fr,hb,aj,g,K⟩:=J.ob i _ (qL hi);rw[W]at B;cases B;obtain⟨d,O,Q,af,ag⟩:=J.cells hi W ho;have ai:old.length=len*ti.size:=by rw[<-O.length];exact Q
        have Y:(len+(m+1))*ti.size<=k*ti.size:=C! _ b;rw[i!]at Y;have X:∀j,j<news.length->L.off+(o+len*ti.size)+j<cc.size:=λj hj=>by rw[Z,U]at hj;omega
        obtain⟨w',c',g1,g2,g3,g4,g5,g6,g7,g8,g9⟩:=auA (P:=P) (a:=L.off+(o+len*ti.size)) hb X (λj hj=>K.2.1 _ (by omega) (by have:=X j hj;omega)) H;unfold pO at e;split at e
        ·cases e;have p:∀(N:Mp),M.le N->∀(q:Nat) (v:V),(old++new)[q]?=some v->∃x,c'[L.off+o+q]?=some x/\Rp N v x/\scalar x=true:=by
          intro N D q v I;rw[g4];rw[A!]at I;split at I
          ·rename_i ap;rw[if_neg (by omega)];obtain⟨ac,S⟩:=TV _ ho;rw[S,jO,b?]at I;rw[if_pos (by omega),c?]at I;obtain⟨x,x1,x2,x3⟩:=g _ _ I;exact⟨x,by rw[<-x1];congr 1;omega,x2.mono D,x3⟩
          ·rename_i ap;obtain⟨x,x1,x2⟩:=l.get I;have a2:q - old.length<news.length:=(p!.1 x1).1;rw[if_pos (by omega)];exact⟨x,by rw[<-x1];congr 1;omega,x2.mono D,H x (j! x1)⟩
         have ab:=J.over (t':=t0) (f':=false) (qL hi) W o (old++new) (w':=w') g6 (λq I=>g5 q I) g7 g8 g9 (λN hN=>⟨c',ae,fr,g2,g3.trans aj,p N hN,K.1,λq ac S=>K.2.1 q (by simp only[]at ac;omega) S,λh=>(by cases h)⟩);refine⟨.slice (some (L.at o)) (len+(m+1)) k,w',_,?_,?_,ab.1,ab.2⟩
         ·rw[@f _ _ _ b];simp only[Loc.IA];have:(storeCells (L.at (o+len*ti.size)) news).run P w=.ok () w':=g1;rw[this];rfl
         ·have:=iZ (o:=0) (n:=len+(m+1)) (k:=.un ti.size) (m:=k) (M.fB h.next ⟨L.blk,L.off+o,L.size⟩) ⟨⟨b,ao.2⟩,by show L.off+o+0+k*ti.size=L.size;omega⟩;exact this
        ·cases e
       ·have hd:=J.drop i;exact ak ho hd.1 rfl hd.2 (by omega) e
      ·rename_i v vs hd;split at e
       ·rename_i hp;have a4:0<(m+1)*ti.size:=X! (by omega) E.size;obtain⟨a3,_⟩:=FU _ _ hp;obtain⟨L',B,cc,ae,fr,hb,aj,g,K⟩:=J.ob i _ (qL hi);rw[W]at B;cases B;have b:len+(m+1)<=k:=by
         have h1:(len+(m+1))*ti.size<=k*ti.size:=by
          rw[i!];have aD:0<cs.length:=by omega
          obtain⟨x,a1,_⟩:=g (cs.length - 1) cs[cs.length - 1] (P! (by omega));have:=(o!.1 a1).1;omega
         exact Nat.le_of_mul_le_mul_right h1 E.size
        exact al rfl hp b (.un ti.size) ⟨⟨b,ao.2⟩,aB⟩ e
       ·cases e
    ·
     rename_i hu;have aq:u=ti.size:=c! hu;subst aq;unfold aHd at e;split at e
     ·rename_i ob ah;split at e
      ·rename_i cs0;rw[ah]at hi;cases hi;split at e
       ·rename_i old ho;split at e
        ·rename_i hd;split at e
         ·rename_i ar;have an:(len+(m+1))*ti.bytes<=140737488355328:=b! ar;cases e;have az:(h.get i).bind Ob.row=some (.ro,cs):=by rw[ah];rfl
          obtain⟨d,O,Q,af,ag⟩:=J.cells az W ho;have ai:old.length=len*ti.size:=by rw[<-O.length];exact Q
          obtain⟨L',B,cc,ae,fr,hb,aj,g,K⟩:=J.ob i _ ah;rw[W]at B;cases B;by_cases b:len+(m+1)<=k
          ·have Y:(len+(m+1))*ti.size<=k*ti.size:=C! _ b;rw[i!]at Y;have X:∀j,j<news.length->L.off+(o+len*ti.size)+j<cc.size:=λj hj=>by rw[Z,U]at hj;omega
           obtain⟨w',c',g1,g2,g3,g4,g5,g6,g7,g8,g9⟩:=auA (P:=P) (a:=L.off+(o+len*ti.size)) hb X (λj hj=>K _ (by omega) (by have:=X j hj;omega)) H;have p:∀(N:Mp),M.le N->∀(q:Nat) (v:V),(old++new)[q]?=some v->∃x,c'[L.off+o+q]?=some x/\Rp N v x/\scalar x=true:=by
            intro N D q v I;rw[g4];rw[A!]at I;split at I
            ·rename_i ap;rw[if_neg (by omega)];obtain⟨ac,S⟩:=TV _ ho;rw[S,jO,b?]at I;rw[if_pos (by omega),c?]at I;obtain⟨x,x1,x2,x3⟩:=g _ _ I;exact⟨x,by rw[<-x1];congr 1;omega,x2.mono D,x3⟩
            ·rename_i ap;obtain⟨x,x1,x2⟩:=l.get I;have a2:q - old.length<news.length:=(p!.1 x1).1;rw[if_pos (by omega)];exact⟨x,by rw[<-x1];congr 1;omega,x2.mono D,H x (j! x1)⟩
           have ab:=J.aIc ah rfl W o (.bytes (old++new)) (w':=w') g6 (λq I=>g5 q I) g7 g8 g9 (λN hN=>⟨c',ae,fr,g2,g3.trans aj,p N hN,λq ac S=>K q (by simp only[]at ac;omega) S⟩);refine⟨.slice (some (L.at o)) (len+(m+1)) k,w',_,?_,?_,ab.1,ab.2⟩
           ·rw[@f _ _ _ b];simp only[Loc.IA];have:(storeCells (L.at (o+len*ti.size)) news).run P w=.ok () w':=g1;rw[this];rfl
           ·exact iZ (o:=0) (n:=len+(m+1)) (k:=.un ti.size) (m:=k) (M.fB h.next ⟨L.blk,L.off+o,L.size⟩) ⟨⟨b,ao.2⟩,by show L.off+o+0+k*ti.size=L.size;omega⟩
          ·have au:=J.drop i;have a6:len+(m+1)<=(len+(m+1))*ti.bytes:=r! _ E.bytes;obtain⟨M',h1,h2,h3⟩:=aEg (h:=h) (n:=len+(m+1)) (C:=grownCap w (len+(m+1)) k el) E au.1 rfl (bY.append O l) (by rw[a?,ai,U,<-i!])
            (λy hy=>(I!.1 hy).elim (af y) (H y)) (grownCap_ge _ _ _ _) (grownCap_le_maxLen _ _ _ _ (by show _<=9223372036854775807;omega))
           refine⟨_,_,M',?_,h1,h2,au.2.trans h3⟩;have:= @aa d (some (L.at o)) len k
            (run_firstCells_some _ _ _ _ _ _ d Q (λj v hj=>by rw[<-ag j v hj];rfl)) (by omega) an E.bytes
           rw[this];simp
         ·cases e
        ·cases e
       ·cases e
      ·cases e
     ·cases e
    ·cases e
  ·cases e
def arG{t t2 ty el:TypeId}{q:TypeDesc}{ti:TypeInfo}{z:Value}(ht:P.underlying t=some (.slice el))(i:P.underlying t2=some q)(f:∀k,q≠ .int k)(E:ElemOk P el ti z)
  {s x:V} {a c:Value} (u:Rel G M h w) (y:Rp M s a) (B:Rp M x c) (e0:bZ el ti.size ti.bytes s x h=.ok r h'):Good P G M h w (g! #[t,t2] ty #[a,c]) r h':=by
 rw[au6]at e0;obtain⟨n,new,news,e,d,g,o,p,b⟩:=ah8 (P:=P) u B e0;exact aij E u y g o p (λl=>asM ht i f E.info d (b w rfl) l)
  (λv m hb j=>aoX ht i f E.info E.zero d (b _ rfl) v m hb j) e
def amE:Value->Option V
 | .bool b=>some (.bool b)
 | .int k n=>some (.int k n)
 | .string s=>some (.str (s.data.toList.map UInt8.toNat))
 | .pointer none=>some .cZ
 | .slice none 0 0=>some .aQ
 | .map none=>some .jM
 | .nilFunc=>some .fJ
 | .nilIface=>some .oQ
 |_=>none
def Iy:List Value->Option (List V)
 | []=>some []
 |v::l=>(match amE v,Iy l with|some a,some r=>some (a::r)|_,_=>none)
def const:Value->Option V
 | .agg cs=>(match Iy cs.toList with|some l=>some (.agg (V.ofList l))|none=>none)
 | .tuple cs=>(match cs.toList with| []=>some V.undef|_=>none)
 |v=>amE v
def aOd(s:ByteArray):bts (s.data.toList.map UInt8.toNat)=s:=by
 apply x!;simp only[bts,R!];have:UInt8.ofNat∘UInt8.toNat=id:=by funext x;simp
 rw[this];simp
def arD{v:Value}{a:V}(e:amE v=some a)(M:Mp):Rp M a v/\scalar v=true:=by
 unfold amE at e;split at e<;>cases e
 ·exact⟨⟨rfl,rfl⟩,rfl⟩
 ·exact⟨⟨rfl,rfl⟩,rfl⟩
 ·refine⟨⟨rfl,?_,?_⟩,rfl⟩
  ·intro b hb;obtain⟨c,_,rfl⟩:=u!.1 hb;exact c.toNat_lt
  ·rw[aOd]
 ·exact⟨⟨rfl,rfl⟩,rfl⟩
 ·exact⟨⟨rfl,rfl⟩,rfl⟩
 ·exact⟨⟨rfl,rfl⟩,rfl⟩
 ·exact⟨⟨rfl,rfl⟩,rfl⟩
 ·exact⟨⟨rfl,rfl⟩,rfl⟩
def BA:∀{l:List Value} {r:List V},Iy l=some r->∀M:Mp,bY M r l/\∀y∈l,scalar y=true
 | [],r,e,M=>by cases e;exact⟨rfl,by simp⟩
 |v::l,r,e,M=>by
  simp only[Iy]at e;split at e
  ·rename_i a t i ht;cases e;obtain⟨c,d⟩:=arD i M;obtain⟨f,g⟩:=BA ht M;exact⟨⟨v,l,c,f,rfl⟩,λy b=>by rcases r?.1 b with rfl|b;exact d;exact g y b⟩
  ·cases e
def UB{v:Value}{a:V}(e:const v=some a)(M:Mp):Rp M a v:=by
 unfold const at e;split at e
 ·rename_i cs;split at e
  ·rename_i l hl;cases e;obtain⟨b,c⟩:=BA hl M;exact aey (xs:=cs.toList) b c
  ·cases e
 ·rename_i cs;split at e
  ·rename_i d;cases e;have:cs= #[]:=by apply J!;exact d
   subst this;exact lH M
  ·cases e
 ·exact(arD e M).1
def Ir:List V->List (Nat×Nat×V)->Option (List V)
 |cs,[]=>some cs
 |cs,(off,size,v)::rest=>(match iq v,l! v.cells.length size with
  |true,true=>(match jK off v.cells cs with|some a=>Ir a rest|none=>none)
  |_,_=>none)
def placed(a:Nat->Option (Nat×Nat)):List (Nat×V)->Option (List (Nat×Nat×V))
 | []=>some []
 |(i,v)::rest=>(match a i,placed a rest with|some p,some r=>some ((p.1,p.2,v)::r)|_,_=>none)
def foldl_set(off:Nat):∀(cs:List Value) (j:Nat) (xs:Array Value),off+j+cs.length<=xs.size->
  ((cs.zipIdx j).foldl (λa (p:Value×Nat)=>a.setIfInBounds (off+p.2) p.1) xs).size=xs.size/\
  ∀k,((cs.zipIdx j).foldl (λa (p:Value×Nat)=>a.setIfInBounds (off+p.2) p.1) xs)[k]?=if off+j<=k/\k<off+j+cs.length then cs[k - (off+j)]? else xs[k]?:=by
 intro cs;induction cs with
 |nil=>intro j xs _;exact⟨rfl,λk=>by rw[if_neg (by simp<;>omega)];rfl⟩
 |cons c cs g=>
  intro j xs hl;simp only[List.zipIdx_cons,n?];have b:off+(j+1)+cs.length<=(xs.setIfInBounds (off+j) c).size:=by simp at hl⊢;omega
  obtain⟨d,f⟩:=g (j+1) (xs.setIfInBounds (off+j) c) b;refine⟨by rw[d];simp,λk=>?_⟩;rw[f k];by_cases e:k=off+j
  ·subst e;rw[if_neg (by omega),if_pos (by simp)];rw[z?,y! (by simp at hl;omega)];rfl
  ·by_cases hk:off+(j+1)<=k/\k<off+(j+1)+cs.length
   ·rw[if_pos hk,if_pos (by simp;omega),show k - (off+j)=(k - (off+(j+1)))+1 from by omega];simp
   ·rw[if_neg hk,if_neg (by simp at hk⊢;omega),F! (by omega)]
def apA{e:Nat->Option (Nat×Nat)}:∀{ps:List (Nat×V)} {qs:List (Nat×Nat×V)} {cs:List V} {r:List V} {ys:List (Nat×Value)} {xs:Array Value},
  placed e ps=some qs->Ir cs qs=some r->bY M cs xs.toList->(∀y∈xs.toList,scalar y=true)->ps.map (·.1)=ys.map (·.1)->bY M (ps.map (·.2)) (ys.map (·.2))->
  ∃f,D? e xs ys=some f/\bY M r f.toList/\∀y∈f.toList,scalar y=true:=by
 intro ps;induction ps with
 |nil=>
  intro qs cs r ys xs o l z E m B;cases ys with
  |cons y ys=>cases m
  |nil=>
   cases o;cases l;exact⟨xs,rfl,z,E⟩
 |cons p ps ih=>
  intro qs cs r ys xs o l z E m B;cases ys with
  |nil=>cases m
  |cons y ys=>
   obtain⟨i,v⟩:=p;obtain⟨i',c⟩:=y;simp only[O!,List.cons.injEq]at m;obtain⟨rfl,m⟩:=m;simp only[O!]at B;obtain⟨x,xt,Q,n,L⟩:=B;simp only[List.cons.injEq]at L;obtain⟨rfl,rfl⟩:=L;simp only[placed]at o;split at o
   ·rename_i q r' Z D;cases o;simp only[Ir]at l;split at l
    ·rename_i hn hb;split at l
     ·rename_i s d;have aa:=c! hb;have t:=Q.cells;have H:=t.length;obtain⟨N,_⟩:=FU _ _ d;have I:=z.length;have O:xs.size=cs.length:=by simpa using I
      have X:c.cells.size=v.cells.length:=by simpa using H
      have b:=foldl_set q.1 c.cells.toList 0 xs (by simp;omega);simp only[C?]at b;obtain⟨f1,f2⟩:=b;have g:c.cells.zipIdx.foldl (λcs x=>match x with|(c,j)=>cs.setIfInBounds (q.1+j) c) xs=(c.cells.toList.zipIdx 0).foldl (λa (p:Value×Nat)=>a.setIfInBounds (q.1+p.2) p.1) xs:=by
       rw[<-Array.foldl_toList,Array.toList_zipIdx]
      have C:=BD Q hn;have:=ih (qs:=r') (cs:=s) (r:=r) (ys:=ys) (xs:=(c.cells.toList.zipIdx 0).foldl (λa (p:Value×Nat)=>a.setIfInBounds (q.1+p.2) p.1) xs) D l
       (bY.mk (by
        have:=(FU _ _ d).2;have Y:s.length=cs.length:=by rw[this];simp;omega
        simp only[V!,f1];omega) (λk u hk=>by
        rw[akp d]at hk;simp only[v!];rw[f2 k];split at hk
        ·rw[if_neg (by omega)];obtain⟨x,J,K⟩:=z.get hk;exact⟨x,by simpa using J,K⟩
        ·split at hk
         ·rw[if_pos (by simp;omega)];exact t.get hk
         ·rw[if_neg (by simp;omega)];obtain⟨x,J,K⟩:=z.get hk;exact⟨x,by simpa using J,K⟩))
       (λy hy=>by
        obtain⟨k,hk⟩:=List.mem_iff_getElem?.1 hy;simp only[v!]at hk;rw[f2 k]at hk;split at hk
        ·exact C y (j! hk)
        ·exact E y (j! (by simpa using hk)))
       m n
      obtain⟨f,S,U,W⟩:=this;refine⟨f,?_,U,W⟩;simp only[D?,Z];rw[if_neg (by simp;omega)];rw[g];exact S
     ·cases l
    ·cases l
   ·cases o
def bK(z:List V)(qs:List (Nat×Nat×V))(h:Hp):R V:=match Ir z qs with
 |some cs=>.ok (.agg (V.ofList cs)) h
 |none=>.bad
def bP(el:TypeId)(z:List V)(len:Nat)(qs:List (Nat×Nat×V))(h:Hp):R V:=match Ir z qs with
 |some cs=>.ok (.slice h.next 0 len (.kn len)) (h.new (.cells (.rw el true) cs))
 |none=>.bad
def avT{t:TypeId}{d:TypeDesc}{it:TypeInfo}{z:Value}{b:Nat->Option (Nat×Nat)}(hd:P.underlying t=some d)(hit:P.info? t=some it)(u:it.zero=some z)
  (o:(∃n e j,d=.array n e/\P.info? e=some j/\b=λi=>some (i*j.size,j.size))\/
   (∃k a,d=.struct k/\k.toList.mapM (λf=>(P.info? f.type).map λi=>(f.offset,i.size))=some a/\b=λi=>a.toArray[i]?))
  {zs:List V} (q:bY M zs z.cells.toList) (p:∀y∈z.cells.toList,scalar y=true) {ps:List (Nat×V)} {qs:List (Nat×Nat×V)} {ys:Array (Nat×Value)}
  (E:placed b ps=some qs) (B:ps.map (·.1)=ys.toList.map (·.1)) (C:bY M (ps.map (·.2)) (ys.toList.map (·.2))) (H:Rel G M h w) (e:bK zs qs h=.ok r h'):
  Good P G M h w (Instr.build t ys) r h':=by
 unfold bK at e;split at e
 ·rename_i cs D;cases e;obtain⟨g,s,v,x⟩:=apA E D q p B C;refine .same H (c:=.agg g) (run_build w t ys g ?_) (aey (xs:=g.toList) v x);unfold Program.built;rcases o with⟨n,e,j,rfl,m,rfl⟩|⟨k,a,rfl,l,rfl⟩
  ·simp only[hit,hd,u,m];exact s
  ·simp only[hit,hd,u,l];exact s
 ·cases e
def asQ{t el:TypeId}{ti:TypeInfo}{z:Value}(hd:P.underlying t=some (.slice el))(E:ElemOk P el ti z){len:Nat}(b:0<len)(c:len*ti.size<=16777216)
  {zs:List V} (j:bY M zs ((T! (len*ti.size)).map (z.cells[· % z.cells.size]!)).toList) {ps:List (Nat×V)} {qs:List (Nat×Nat×V)} {ys:Array (Nat×Value)}
  (x:placed (λi=>some (i*ti.size,ti.size)) ps=some qs) (s:ps.map (·.1)=ys.toList.map (·.1)) (u:bY M (ps.map (·.2)) (ys.toList.map (·.2))) (B:Rel G M h w) (e:bP el zs len qs h=.ok r h'):
  Good P G M h w (Instr.buildSlice t len ys) r h':=by
 unfold bP at e;split at e
 ·rename_i cs v;cases e;have g:∀y∈((T! (len*ti.size)).map (z.cells[· % z.cells.size]!)).toList,scalar y=true:=by
   intro y n;simp only[t!,u!]at n;obtain⟨i,_,rfl⟩:=n;have d:i % z.cells.size<z.cells.size:=E? _ (by rw[E.cells];exact E.size);rw[getElem!_pos z.cells _ d];exact E.plain _ (by simp)
  obtain⟨a,p,l,q⟩:=apA x v j g s u;have hl:=l.length;have:=B.row cs a el (0,0) (w':=w.alloc (.cells a el)) (by rw[show cs.length=a.toList.length from hl.symm,H!];exact l) q (by simp) true (λ_=>by rw[<-hl];simp) rfl rfl rfl rfl;have f:¬len*ti.size=0:=by have:=X! b E.size;omega
  exact⟨_,_,_,run_buildSlice w t el len ys a ti z hd E.info E.zero (by omega) f p,iZ (o:=0) (k:=.kn len) (m:=len) (M.fB _ _) ⟨rfl,h! _⟩,this.1,this.2⟩
 ·cases e
def aHe{t:TypeId}{it:TypeInfo}{z:Value}(hit:P.info? t=some it)(d:it.zero=some z){zs:List V}(a:bY M zs z.cells.toList)(b:∀y∈z.cells.toList,scalar y=true)
  (c:Rel G M h w) (e:eY t zs h=.ok r h'):Good P G M h w (y? t true (.tuple #[])) r h':=by
 cases e;have hl:=a.length;have:=c.row zs z.cells t (0,0) (w':=w.alloc (.cells z.cells t)) (by rw[show zs.length=z.cells.toList.length from hl.symm,H!];exact a) b (by simp) true (λ_=>by rw[<-hl];simp) rfl rfl rfl rfl;refine⟨.pointer (some ⟨w.heap.size,0,none⟩),_,_,?_,yL (M.fB _ _) 0,this.1,this.2⟩;simp[y?,zeroValue,typeInfo,hit,d,newVar,newRow]
def times(n:Nat)(z:List V):List V:=A? (motive:=λ_=>List V) [] (λ_ a=>z++a) n
def xR(el:TypeId)(bt:Nat)(z:List V)(l c:V)(h:Hp):R V:=lS l λl=>lS c λc=>
 match q! l c,q! (B? c bt) 140737488355328 with
 |true,true=>.ok (.slice h.next 0 l (.kn c)) (h.new (.cells (.rw el true) (times c z)))
 |_,_=>.bad
def EW(z:Array Value):∀n:Nat,0<z.size->((T! (n*z.size)).map (z[· % z.size]!)).toList=(z! n z.toList).flatten:=by
 intro n e;apply List.ext_getElem?;intro i;induction n generalizing i with
 |zero=>simp
 |succ n d=>
  rw[Y!,i?,A!];by_cases hi:i<z.size
  ·rw[if_pos (by simpa using hi)];have a:i<(n+1)*z.size:=by rw[i!];omega
   simp[a,Nat.mod_eq_of_lt hi,hi]
  ·rw[if_neg (by simpa using hi)];rw[<-d];by_cases a:i<(n+1)*z.size
   ·have b:i - z.size<n*z.size:=by rw[i!]at a;omega
    have c:(i - z.size) % z.size=i % z.size:=by
     conv=>rhs;rw[show i=(i - z.size)+z.size from by omega]
     rw[Nat.add_mod_right]
    simp[a,b,c]
   ·have b:¬i - z.size<n*z.size:=by rw[i!]at a;omega
    simp[a,b]
def FQ{zs:List V}{xs:List Value}(a:bY M zs xs)(n:Nat):bY M (times n zs) (z! n xs).flatten:=by
 induction n with
 |zero=>rfl
 |succ n b=>
  rw[Y!,i?];exact bY.append a b
def avh{t el:TypeId}{ti:TypeInfo}{z:Value}(hd:P.underlying t=some (.slice el))(E:ElemOk P el ti z){zs:List V}(u:bY M zs z.cells.toList)
  {l c:V} {a b:Value} (I:Rel G M h w) (hl:Rp M l a) (D:Rp M c b) (e:xR el ti.bytes zs l c h=.ok r h'):Good P G M h w (Instr.makeSlice t a b) r h':=by
 obtain⟨J,n1,rfl,e1⟩:=pR e;clear e;obtain⟨K,d,rfl,e2⟩:=pR e1;clear e1;cases hl.int;cases D.int;split at e2
 ·rename_i x B;cases e2;have s:n1<=d:=b! x;have C:d*ti.bytes<=140737488355328:=b! B;have H:d<=d*ti.bytes:=r! _ E.bytes;have j:(ti.bytes:Int)*(d:Int)<=281474976710656:=by
   have:((ti.bytes*d:Nat):Int)<=281474976710656:=by rw[Nat.mul_comm];omega
   rwa[Int.natCast_mul]at this
  have i:=run_make (P:=P) w t el ti z hd E.info E.zero J K (n1:Int) (d:Int) (by omega) (by omega) j (by omega);simp only[Int.toNat_natCast]at i;have p:(madeCells z.cells (d*ti.size)).toList=(z! d z.cells.toList).flatten:=by
   unfold madeCells;rw[<-E.cells];exact EW z.cells d (by rw[E.cells];exact E.size)
  have g:=FQ u d;have f:=g.length;have:=I.row (times d zs) (madeCells z.cells (d*ti.size)) el (0,0) (w':=w.alloc (.cells (madeCells z.cells (d*ti.size)) el))
   (by rw[p,<-f,H!];exact g)
   (by
    intro y v;rw[p]at v;obtain⟨l,hl,q⟩:=List.mem_flatten.1 v;rw[(List.mem_replicate.1 hl).2]at q;exact E.plain y q) (by simp) true (λ_=>by rw[<-f,<-p];simp) rfl rfl rfl rfl
  exact⟨_,_,_,i,iZ (o:=0) (n:=n1) (k:=.kn d) (m:=d) (M.fB _ _) ⟨rfl,s⟩,this.1,this.2⟩
 ·cases e2
def FX(x:V)(h:Hp):R V:=match x with
 | .str s=>(match K! s.length 4611686018427387904 with|true=>.ok (.slice h.next 0 s.length (.un 1)) (h.new (.bytes (u8s s)))|false=>.bad)
 |_=>.bad
def tq:List V->Option (List Nat)
 | []=>some []
 |v::l=>(match v with
  | .int k n=>(match l! (kix k) 4,n with
   |true,.ofNat b=>(match K! b 256,tq l with|true,some r=>some (b::r)|_,_=>none)
   |_,_=>none)
  |_=>none)
def Bl(x:V)(h:Hp):R V:=match x with
 | .aQ=>.ok (.str []) h
 | .emp=>.ok (.str []) h
 | .slice i o n _=>dR h i λ_ cs=>(match gJ n (fG o cs) with
  |some l=>(match tq l with|some s=>.ok (.str s) h|none=>.bad)
  |none=>.bad)
 |_=>.bad
def axV{s d el:TypeId}(J:P.underlying s=some .string)(hd:P.underlying d=some (.slice el))(H:P.underlying el=some (.int .u8)){x:V}{a:Value}(I:Rel G M h w)(K:Rp M x a)(e:FX x h=.ok r h'):
  Good P G M h w (convert s d a) r h':=by
 unfold FX at e;split at e
 ·rename_i l;obtain⟨hl,rfl⟩:=K.str;split at e
  ·rename_i u;have E:l.length<4611686018427387904:=by simpa[E!]using u
   cases e;have c:=run_bytes_of_string (P:=P) w s d el (bts l) J hd H;have f:=grownCap_ge w (bts l).size 0 el;have p:grownCap w (bts l).size 0 el<=9223372036854775807:=grownCap_le_maxLen _ _ _ _ (by rw[lM];show _<=9223372036854775807;omega);generalize O:grownCap w (bts l).size 0 el=C at c f p;have j:(bytesRow (bts l) C).toList=(l.map λb=>Value.int .u8 (.ofNat b))++z! (C - l.length) (.int .u8 0):=by
    simp only[bytesRow,D!,t!,lM,Array.toList_replicate];congr 1;simp only[bts,R!];apply Z!;intro b hb;simp[TT (hl b hb)]
   have D:(bytesRow (bts l) C).size=C:=by
    rw[<-V!,j];rw[lM]at f;simp;omega
   have q:bY M (u8s l) (l.map λb=>Value.int .u8 (.ofNat b)):=by
    refine bY.mk (by simp[u8s]) (λi v hi=>?_);simp only[u8s,h?]at hi⊢;cases t:l[i]? with
    |none=>rw[t]at hi;cases hi
    |some b=>rw[t]at hi;cases hi;exact⟨_,rfl,gU M _ _⟩
   have:=I.new (.bytes (u8s l)) (.cells (bytesRow (bts l) C) el ((bytesRow (bts l) C).size,(bytesRow (bts l) C).size+1)) (bytesRow (bts l) C).size
    (w':=w.drew.alloc (.cells (bytesRow (bts l) C) el ((bytesRow (bts l) C).size,(bytesRow (bts l) C).size+1))) rfl rfl rfl rfl
    (λN z=>⟨_,_,_,by simp only[v?];exact N!,rfl,λk v hk=>by
     obtain⟨x,g,B⟩:=q.get hk;have y:(bytesRow (bts l) C)[0+k]?=some x:=by
      rw[G!,<-v!,j,List.getElem?_append_left (by rw[p!]at g;exact g.1)];exact g
     refine⟨x,y,B.mono z,?_⟩;obtain⟨b,_,rfl⟩:=u!.1 (j! g);rfl,λk _ hk h=>by
      have L:(bytesRow (bts l) C).size<=k:=h.1;exact absurd hk (by show ¬k<(bytesRow (bts l) C).size;omega)⟩)
   rw[lM]at c f;exact⟨_,_,_,c,iZ (o:=0) (n:=l.length) (k:=.un 1) (m:=C) (M.fB h.next ⟨w.heap.size,0,(bytesRow (bts l) C).size⟩) ⟨⟨f,p⟩,by show 0+0+C*1=(bytesRow (bts l) C).size;rw[D];omega⟩,this.1,this.2.1⟩
  ·cases e
 ·cases e
def ark:∀{l:List V} {s:List Nat} {xs:List Value},tq l=some s->bY M l xs->(∀b∈s,b<256)/\xs=(s.map λ(b:Nat)=>(b:Int)).map (Value.int .u8):=by
 intro l;induction l with
 |nil=>intro s xs e j;cases e;rw[show xs= [] from j];simp
 |cons v l q=>
  intro s xs e j;obtain⟨x,t,p,ht,rfl⟩:=j;simp only[tq]at e;split at e
  ·rename_i k n;split at e
   ·rename_i b hk;split at e
    ·rename_i r hb i;cases e;obtain⟨m,o⟩:=q i ht;have g:k=.u8:=LU (a:=k) (b:=.u8) hk;subst g;cases p.int;have d:b<256:=by simpa[E!]using hb
     refine⟨λc f=>?_,by rw[o];rfl⟩;rcases r?.1 f with rfl|f
     ·exact d
     ·exact m c f
    ·cases e
   ·cases e
  ·cases e
def fold_push:∀(s:List Nat) (acc:ByteArray),(s.map λ(b:Nat)=>(b:Int)).foldl (λr n=>r.push (UInt8.ofNat n.toNat)) acc=acc++bts s:=by
 intro s;induction s with
 |nil=>intro acc;apply x!;simp[bts]
 |cons b s a=>
  intro acc;simp only[O!,n?,Int.toNat_natCast];rw[a];apply x!;simp[bts]
def ayf{s d el:TypeId}(p:P.underlying s=some (.slice el))(hd:P.underlying d=some .string)(j:P.underlying el=some (.int .u8)){x:V}{a:Value}(g:Rel G M h w)(q:Rp M x a)(e:Bl x h=.ok r h'):
  Good P G M h w (convert s d a) r h':=by
 unfold Bl at e;have D:ByteArray.empty=bts []:=rfl;split at e
 ·cases e;cases q.aQ;refine .same g (c:=.string (bts [])) ?_ (Ub (by simp));rw[run_convert_bytes_string w s d el _ _ _ p j hd];rfl
 ·cases e;obtain⟨v,k,rfl⟩:=q.emp;refine .same g (c:=.string (bts [])) ?_ (Ub (by simp));rw[run_convert_bytes_string w s d el _ _ _ p j hd];have:=run_bytesToString (P:=P) w v 0 k [] (by rfl)
  exact this
 ·rename_i i o n cap;obtain⟨L,m,B,_,rfl⟩:=q.slice;obtain⟨wr,cs,hi,e1⟩:=gG e;split at e1
  ·rename_i l hl;split at e1
   ·rename_i t ht;cases e1;obtain⟨xs,u,f,E,C⟩:=g.cells hi B hl;obtain⟨y,z⟩:=ark ht u;refine .same g (c:=.string (bts t)) ?_ (Ub y);rw[run_convert_bytes_string w s d el _ _ _ p j hd];have b:=run_loadCells_list (P:=P) w (L.at o) xs C
    rw[f,z]at b;have:=run_bytesToString (P:=P) w (L.at o) n m _ b;rw[this,fold_push];congr 2
   ·cases e1
  ·cases e1
 ·cases e
def auT(x:V)(h:Hp):R V:=match x with
 | .slice i o n c=>(match h.get i with
  |some ob=>(match ob with
   | .cells wr cs=>(match wr with| .rw _ _=>.ok (.slice i o n c) (h.put i (some (.cells .ro cs)))| .ro=>.bad)
   |_=>.bad)
  |none=>.bad)
 |_=>.bad
def aGt{s d el g:TypeId}(v:s=d)(C:P.underlying s=some (.slice el))(hd:P.underlying d=some (.slice g))(H:P.underlying g=some (.int .u8)){x:V}{a:Value}(B:Rel G M h w)(D:Rp M x a)(e:auT x h=.ok r h'):
  Good P G M h w (convert s d a) r h':=by
 unfold auT at e;split at e
 ·rename_i i o n c;obtain⟨L,k,z,N,rfl⟩:=D.slice;split at e
  ·rename_i ob p;split at e
   ·rename_i wr cs;split at e
    ·cases e;obtain⟨K,m,f,l,fr,hb,y,j,I⟩:=B.ob i _ p;rw[z]at m;cases m;have E:L.blk<w.heap.size:=(o!.1 hb).1;have t:(markStringish (L.at o)).run P w=.ok () (w.freeze ⟨L.blk,f.size,none⟩ 1):=by
      have b:w.shape? L.blk=some (l,f.size):=by simp[World.shape?,hb]
      simp[markStringish,Loc.at,b]
     have ht:=B.turn p z rfl (w':=w.freeze ⟨L.blk,f.size,none⟩ 1) (o':=.cells .ro cs) (by simp[Q!]) (λq J=>by
      simp only[Q!];rw[if_neg (by omega),w!,if_neg (Ne.symm J)]) rfl rfl rfl (by
      refine⟨f,l,(if fr.1==fr.2 then(f.size,f.size+1) else(min fr.1 f.size,max fr.2 (f.size+1))),?_,y,j,trivial⟩;simp only[Q!];rw[if_neg (by omega),w!,if_pos rfl,hb];rfl)
     refine⟨_,_,M,?_,D,ht.1,ht.2⟩;subst v;have u:el=g:=by rw[C]at hd;cases hd;rfl
     subst u;simp only[convert,Sem.run_bind,run_underlying C,run_underlying H,Result.andThen_ok,beq_self_eq_true];rw[t];rfl
    ·cases e
   ·cases e
  ·cases e
 ·cases e
def aGy(l:List Nat):Nat:=F? (motive:=λ_=>Nat) 0 (λ_ _ a=>Nat.succ a) l
def azH(l:List Nat):aGy l=l.length:=by induction l with|nil=>rfl|cons a t b=>exact congrArg (· +1) b
def aNX(l:List (V×V)):Nat:=F? (motive:=λ_=>Nat) 0 (λ_ _ a=>Nat.succ a) l
def aI9(l:List (V×V)):aNX l=l.length:=by induction l with|nil=>rfl|cons a t b=>exact congrArg (· +1) b
def aCf(x:V)(h:Hp):R V:=match x with
 | .str s=>.ok (.int .i64 (.ofNat (aGy s))) h
 | .slice _ _ n _=>.ok (.int .i64 (.ofNat n)) h
 | .aQ=>.ok (.int .i64 (.ofNat 0)) h
 | .emp=>.ok (.int .i64 (.ofNat 0)) h
 | .jM=>.ok (.int .i64 (.ofNat 0)) h
 | .map i=>(match h.get i with|some (.map es)=>.ok (.int .i64 (.ofNat (aNX es))) h|_=>.bad)
 |_=>.bad
def zq(d:TypeDesc):Nat:=match d with
 | .string=>1| .slice _=>2| .map _ _=>3|_=>0
def F6(k:Nat)(x:V):Bool:=match x with
 | .str _=>l! k 1
 | .slice _ _ _ _| .aQ| .emp=>l! k 2
 | .jM| .map _=>l! k 3
 |_=>false
def aZ(k:Nat)(x:V)(h:Hp):R V:=match F6 k x with|true=>aCf x h|false=>.bad
def aNW{t ty:TypeId}{d:TypeDesc}(hd:P.underlying t=some d){x:V}{a:Value}(b:Rel G M h w)(f:Rp M x a)(e:aZ (zq d) x h=.ok r h'):
  Good P G M h w (k! #[t] ty #[a]) r h':=by
 unfold aZ at e;split at e
 case h_2=>cases e
 rename_i D;cases x with
 |str s=>
  cases e;cases f.str.2;have:d=.string:=by cases d<;>simp_all[F6,zq]
  subst this;rw[azH];refine .same b ?_ (gU M _ _);simp[k!,run_underlying hd,lM,goInt]
 |slice i o n c=>
  cases e;obtain⟨L,m,_,_,rfl⟩:=f.slice;have:∃el,d=.slice el:=by cases d<;>simp_all[F6,zq]
  obtain⟨el,rfl⟩:=this;refine .same b ?_ (gU M _ _);simp[k!,run_underlying hd,goInt]
 |aQ=>
  cases e;cases f.aQ;have:∃el,d=.slice el:=by cases d<;>simp_all[F6,zq]
  obtain⟨el,rfl⟩:=this;refine .same b ?_ (gU M _ _);simp[k!,run_underlying hd,goInt]
 |emp=>
  cases e;obtain⟨_,_,rfl⟩:=f.emp;have:∃el,d=.slice el:=by cases d<;>simp_all[F6,zq]
  obtain⟨el,rfl⟩:=this;refine .same b ?_ (gU M _ _);simp[k!,run_underlying hd,goInt]
 |jM=>
  cases e;cases f.jM;have:∃k el,d=.map k el:=by cases d<;>simp_all[F6,zq]
  obtain⟨k,el,rfl⟩:=this;refine .same b ?_ (gU M _ _);simp[k!,run_underlying hd,goInt]
 |map i=>
  simp only[aCf]at e;have:∃k el,d=.map k el:=by cases d<;>simp_all[F6,zq]
  obtain⟨k,el,rfl⟩:=this;split at e
  ·rename_i es p;cases e;obtain⟨L,y,rfl⟩:=f.map;obtain⟨C,g,en,q,hb,⟨l,B,v⟩,_⟩:=b.ob i _ p;rw[y]at g;cases g;have j:en.size=es.length:=by
    have e2:=v.length;have u:=B.length_eq;simp at u;omega
   rw[aI9];refine .same b (c:=.int .i64 (.ofNat es.length)) ?_ (gU M _ _);have z:(getObj L.blk).run P w=.ok (.map en q) w:=by simp[getObj,Sem.run,hb]
   simp[k!,run_underlying hd,goInt,z,j]
  ·cases e
 |_=>cases e
def azv(n:Nat)(h:Hp):R V:=.ok (.int .i64 (.ofNat n)) h
def aD9{t ty:TypeId}{n:Nat}{el:TypeId}(hd:P.underlying t=some (.array n el)){a:Value}(b:Rel G M h w)(e:azv n h=.ok r h'):
  Good P G M h w (k! #[t] ty #[a]) r h':=by
 cases e;refine .same b (c:=goInt n) ?_ (gU M _ _);simp[k!,run_underlying hd]
def aCd(x y:V)(h:Hp):R V:=asInt x λk a=>asInt y λ_ b=>match vU a b with|true=>.ok (.int k a) h|false=>.ok (.int k b) h
def akv(x y:V)(h:Hp):R V:=asInt x λk a=>asInt y λ_ b=>match vU b a with|true=>.ok (.int k a) h|false=>.ok (.int k b) h
def aNS{at_:Array TypeId}{ty:TypeId}{x y:V}{a b:Value}(f:Rel G M h w)(g:Rp M x a)(i:Rp M y b)(e:aCd x y h=.ok r h'):Good P G M h w (L! at_ ty #[a,b]) r h':=by
 obtain⟨k,n,rfl,e1⟩:=FD e;obtain⟨j,m,rfl,e2⟩:=FD e1;cases g.int;cases i.int;rw[Uu]at e2;by_cases d:n<=m
 ·rw[decide_eq_true d]at e2;cases e2;refine .same f (c:=.int k n) ?_ (gU M _ _);have:¬m<n:=by omega
  simp[L!,o?,this]
 ·rw[decide_eq_false d]at e2;cases e2;refine .same f (c:=.int k m) ?_ (gU M _ _);have:m<n:=by omega
  simp[L!,o?,this]
def aNT{at_:Array TypeId}{ty:TypeId}{x y:V}{a b:Value}(f:Rel G M h w)(g:Rp M x a)(i:Rp M y b)(e:akv x y h=.ok r h'):Good P G M h w (M! at_ ty #[a,b]) r h':=by
 obtain⟨k,n,rfl,e1⟩:=FD e;obtain⟨j,m,rfl,e2⟩:=FD e1;cases g.int;cases i.int;rw[Uu]at e2;by_cases d:m<=n
 ·rw[decide_eq_true d]at e2;cases e2;refine .same f (c:=.int k n) ?_ (gU M _ _);have:¬n<m:=by omega
  simp[M!,p?,this]
 ·rw[decide_eq_false d]at e2;cases e2;refine .same f (c:=.int k m) ?_ (gU M _ _);have:n<m:=by omega
  simp[M!,p?,this]
end
end Go.Vm
