/- Part of the claim: facts that its last text uses. No conditions. -/
import Derived.Test.YtfaolchpaooboaaGreatDoorJbAA
import Derived.Laws.IdiomStrings
import Derived.Laws.BytesString
import Derived.Laws.MakeOwn
import Derived.Great.BuildSlice
set_option linter.all false
namespace Go.Vm
noncomputable section
variable{P:Program}{G:Nat}{M:Mp}{h h':Hp}{w:World}{r:V}
def qc(n:Nat)(l:List Nat):List Nat:=
 Nat.rec (motive:=fun _=>List Nat→List Nat) (fun l=>l) (fun _ ih l=>List.casesOn l [] (fun _ t=>ih t)) n l
def takeN(n:Nat)(l:List Nat):List Nat:=
 Nat.rec (motive:=fun _=>List Nat→List Nat) (fun _=> []) (fun _ ih l=>List.casesOn l [] (fun a t=>a::ih t)) n l
theorem tN(n:Nat):∀l:List Nat,qc n l=l.drop n:=by
 induction n with
 |zero=>intro l;rfl
 |succ n ih=>intro l;cases l with
  |nil=>rfl
  |cons a t=>exact(ih t).trans (by simp)
theorem Iz(n:Nat):∀l:List Nat,takeN n l=l.take n:=by
 induction n with
 |zero=>intro l;rfl
 |succ n ih=>intro l;cases l with
  |nil=>rfl
  |cons a t=>exact(congrArg (a:: ·) (ih t)).trans (by simp)
def dX(x:Option V)(d:Nat)(k:Nat→R V):R V:=match x with
 |none=>k d
 |some v=>iU v k
def jf(M:Mp):Option V→Option Value→Prop
 |none,none=>True
 |some v,some c=>Rp M v c
 |_,_=>False
def oH(y:Option Value)(d n:Nat):Prop:=match y with
 |none=>n=d
 |some c=>∃k,c=.int k (.ofNat n)
theorem iE{x:Option V}{d:Nat}{k:Nat→R V}{y:Option Value}(hx:jf M x y)(e:dX x d k=.ok r h'):∃n,oH y d n∧k n=.ok r h':=by
 cases x with
 |none=>cases y with
  |none=>exact⟨d,rfl,e⟩
  |some c=>exact hx.elim
 |some v=>cases y with
  |none=>exact hx.elim
  |some c=>
   obtain⟨k',n,rfl,e1⟩:=kz e
   exact⟨n,⟨k',Rp.int hx⟩,e1⟩
theorem run_sliceBound{k:IntKind}{n y:Nat}(hn:n≤y)(code:BoundsCode):(Instr.sliceBound (.int k (n:Int)) y code).run P w=.ok n w:=by
 simp [Instr.sliceBound,asIntOf,hn]
theorem iI{isS:Bool}{len cap:Nat}{lo hi mx:Option Value}{m hh l:Nat}(h1:oH mx cap m)(h2:oH hi len hh)(h3:oH lo 0 l)
  (h4:mx=none∨hi≠none) (g1:m≤cap) (g2:hh≤m) (g3:l≤hh):(Instr.sliceBounds isS len cap lo hi mx).run P w=.ok (l,hh,m) w:=by
 unfold Instr.sliceBounds
 cases mx with
 |none=>
  have h1:m=cap:=h1
  subst h1
  cases hi with
  |none=>
   have h2:hh=len:=h2
   subst h2
   cases lo with
   |none=>have h3:l=0:=h3;subst h3;simp
   |some c=>obtain⟨k,rfl⟩:=h3;simp [run_sliceBound g3]
  |some c=>
   obtain⟨k,rfl⟩:=h2
   cases lo with
   |none=>have h3:l=0:=h3;subst h3;simp [run_sliceBound g2]
   |some c=>obtain⟨k,rfl⟩:=h3;simp [run_sliceBound g2,run_sliceBound g3]
 |some c=>
  obtain⟨k,rfl⟩:=h1
  cases hi with
  |none=>rcases h4 with h4|h4<;>simp at h4
  |some c=>
   obtain⟨k,rfl⟩:=h2
   cases lo with
   |none=>have h3:l=0:=h3;subst h3;simp [run_sliceBound g1,run_sliceBound g2]
   |some c=>obtain⟨k,rfl⟩:=h3;simp [run_sliceBound g1,run_sliceBound g2,run_sliceBound g3]
def eF(x:V)(lo hi:Option V)(h:Hp):R V:=match x with
 | .str s=>dX hi s.length fun hh=>dX lo 0 fun l=>
  (match Nat.ble hh s.length,Nat.ble l hh with
  |true,true=>.ok (.str (takeN (hh - l) (qc l s))) h
  |_,_=>.bad)
 |_=>.bad
def moved(sz o l m:Nat):Nat:=match Nat.beq m l with|true=>o|false=>o+l*sz
def Hu(mx hi:Option V):Bool:=match mx with
 |none=>true
 |some _=>(match hi with|none=>false|some _=>true)
def qB(sz:Nat)(i:Pos)(o len top:Nat)(lo hi:Option V)(h:Hp)(m:Nat):R V:=
 dX hi len fun hh=>dX lo 0 fun l=>
  match Nat.ble m top,Nat.ble hh m,Nat.ble l hh with
  |true,true,true=>bQ (moved sz o l m) fun q=>bQ (hh - l) fun n=>.ok (.slice i q n (.kn (m - l))) h
  |_,_,_=>.bad
def wG(sz:Nat)(i:Pos)(o len u:Nat)(lo hi:Option V)(h:Hp):R V:=
 dX hi len fun hh=>dX lo 0 fun l=>
  match Nat.ble hh len,Nat.ble l hh,Nat.beq u sz with
  |true,true,true=>(match l with
   |0=>.ok (.slice i o hh (.un u)) h
   |l+1=>(match Nat.blt (l+1) len with
    |true=>bQ (o+(l+1)*sz) fun q=>bQ (hh - (l+1)) fun n=>.ok (.slice i q n (.un u)) h
    |false=>.ok .emp h))
  |_,_,_=>.bad
def ny(v:V)(lo hi:Option V)(h:Hp)(m:Nat):R V:=
 dX hi 0 fun hh=>dX lo 0 fun l=>match m,hh,l with|0,0,0=>.ok v h|_,_,_=>.bad
def zJ(sz:Nat)(x:V)(lo hi mx:Option V)(h:Hp):R V:=
 match x with
 | .slice i o len cap=>(match cap with
  | .kn c=>dX mx c (qB sz i o len c lo hi h)
  | .un u=>(match mx with
   |none=>wG sz i o len u lo hi h
   |some mv=>iU mv (qB sz i o len len lo hi h)))
 | .af=>dX mx 0 (ny .af lo hi h)
 | .emp=>(match mx with
  |none=>ny .emp lo hi h 0
  |some _=>.bad)
 |_=>.bad
def qK(sz:Nat)(x:V)(lo hi mx:Option V)(h:Hp):R V:=
 match Hu mx hi with
 |true=>zJ sz x lo hi mx h
 |false=>.bad
def nD(sz len:Nat)(x:V)(lo hi mx:Option V)(h:Hp):R V:=
 match Hu mx hi with
 |true=>iP x fun i o=>dX mx len (qB sz i o len len lo hi h)
 |false=>.bad
theorem yg(s:List Nat)(l hh:Nat):(bts s).extract l hh=bts ((s.drop l).take (hh - l)):=by
 apply ByteArray.ext
 apply Array.ext'
 simp [bts,ByteArray.data_extract,List.map_take,List.map_drop,List.extract_eq_take_drop]
theorem TK{t:TypeId}(ht:P.underlying t=some .string){x:V}{a:Value}{lo hi:Option V}{clo chi:Option Value}(hr:Rel G M h w)(hx:Rp M x a)(hlo:jf M lo clo)(hhi:jf M hi chi)
  (e:eF x lo hi h=.ok r h'):Good P G M h w (Instr.sliceAt t a clo chi none) r h':=by
 unfold eF at e
 split at e
 ·rename_i s
  obtain⟨hs,rfl⟩:=hx.str
  obtain⟨hh,b1,e⟩:=iE hhi e
  obtain⟨l,b2,e⟩:=iE hlo e
  split at e
  ·rename_i c1 c2
   cases e
   have c1':hh≤s.length:=Nat.le_of_ble_eq_true c1
   have c2':l≤hh:=Nat.le_of_ble_eq_true c2
   have hb:=iI (P:=P) (w:=w) (isS:=false) (len:=s.length) (cap:=s.length) (mx:=none) (m:=s.length) rfl b1 b2 (.inl rfl) (Nat.le_refl _) c1' c2'
   refine .same hr (c:=.string (bts ((s.drop l).take (hh - l)))) ?_ ?_
   ·simp [Instr.sliceAt,Instr.slice,run_underlying ht,gW,hb,yg]
   ·rw [Iz,tN]
    exact oM fun b hb=>hs b (List.mem_of_mem_drop (List.mem_of_mem_take hb))
  ·cases e
 ·cases e
theorem JO(L:Loc)(sz o l m:Nat):(if m=l then L.at o else(L.at o).add (l*sz))=L.at (moved sz o l m):=by
 unfold moved
 cases hb:Nat.beq m l with
 |true=>rw [if_pos (Nat.eq_of_beq_eq_true hb)]
 |false=>rw [if_neg (Nat.ne_of_beq_eq_false hb),Loc.nI]
theorem pV{t el:TypeId}{ti:TypeInfo}(ht:P.underlying t=some (.slice el))(hti:P.info? el=some ti){a:Option Addr}{len cap l hh m:Nat}{clo chi cmx:Option Value}
  (hb:(Instr.sliceBounds true len cap clo chi cmx).run P w=.ok (l,hh,m) w):
  (Instr.sliceAt t (.slice a len cap) clo chi cmx).run P w=.ok (.slice (if m=l then a else a.map (·.add (l*ti.size))) (hh - l) (m - l)) w:=by
 simp [Instr.sliceAt,Instr.slice,run_underlying ht,hb,sizeOf,typeInfo,hti]
theorem Jq{mx hi:Option V}{cmx chi:Option Value}(hmx:jf M mx cmx)(hhi:jf M hi chi)(h:Hu mx hi=true):cmx=none∨chi≠none:=by
 cases mx<;>cases hi<;>cases cmx<;>cases chi<;>simp_all [jf,Hu]
theorem uQ{sz:Nat}{i:Pos}{o len top m:Nat}{lo hi:Option V}{clo chi cmx:Option Value}(hlo:jf M lo clo)(hhi:jf M hi chi)(h4:cmx=none∨chi≠none)
  {cap:Nat} (b1:oH cmx cap m) (ht:top≤cap) {isS:Bool} (e:qB sz i o len top lo hi h m=.ok r h'):
  ∃hh l,hh≤m∧(Instr.sliceBounds isS len cap clo chi cmx).run P w=.ok (l,hh,m) w∧h'=h∧r=.slice i (moved sz o l m) (hh - l) (.kn (m - l)):=by
 obtain⟨hh,b2,e⟩:=iE hhi e
 obtain⟨l,b3,e⟩:=iE hlo e
 split at e
 ·rename_i c1 c2 c3
  rw [bf,bf] at e
  cases e
  exact⟨hh,l,Nat.le_of_ble_eq_true c2,iI b1 b2 b3 h4 (Nat.le_trans (Nat.le_of_ble_eq_true c1) ht) (Nat.le_of_ble_eq_true c2) (Nat.le_of_ble_eq_true c3),rfl,rfl⟩
 ·cases e
theorem uP{v:V}{m:Nat}{lo hi:Option V}{clo chi cmx:Option Value}(hlo:jf M lo clo)(hhi:jf M hi chi)(h4:cmx=none∨chi≠none)
  {cap:Nat} (b1:cmx=none∨oH cmx 0 m) {isS:Bool} (e:ny v lo hi h m=.ok r h'):
  ∃m',(m'=0∨m'=cap)∧(Instr.sliceBounds isS 0 cap clo chi cmx).run P w=.ok (0,0,m') w∧h'=h∧r=v:=by
 obtain⟨hh,b2,e⟩:=iE hhi e
 obtain⟨l,b3,e⟩:=iE hlo e
 split at e
 ·cases e
  rcases b1 with rfl|b1
  ·exact⟨cap,.inr rfl,iI rfl b2 b3 h4 (Nat.le_refl _) (Nat.zero_le _) (Nat.le_refl _),rfl,rfl⟩
  ·cases cmx with
   |none=>exact⟨cap,.inr rfl,iI rfl b2 b3 h4 (Nat.le_refl _) (Nat.zero_le _) (Nat.le_refl _),rfl,rfl⟩
   |some c=>exact⟨0,.inl rfl,iI b1 b2 b3 h4 (Nat.zero_le _) (Nat.le_refl _) (Nat.le_refl _),rfl,rfl⟩
 ·cases e
theorem amA{t el:TypeId}{ti:TypeInfo}(ht:P.underlying t=some (.slice el))(hti:P.info? el=some ti){x:V}{a:Value}{lo hi mx:Option V}{clo chi cmx:Option Value}(hr:Rel G M h w)(hx:Rp M x a)
  (hlo:jf M lo clo) (hhi:jf M hi chi) (hmx:jf M mx cmx) (e:qK ti.size x lo hi mx h=.ok r h'):Good P G M h w (Instr.sliceAt t a clo chi cmx) r h':=by
 unfold qK at e
 split at e
 case h_2=>cases e
 rename_i hm
 have h4:=Jq hmx hhi hm
 clear hm
 have key:∀{i:Pos} {o len cap hh l m:Nat} {L:Loc},hh≤m→M i=some L→(Instr.sliceBounds true len cap clo chi cmx).run P w=.ok (l,hh,m) w→
   Good P G M h w (Instr.sliceAt t (.slice (some (L.at o)) len cap) clo chi cmx) (.slice i (moved ti.size o l m) (hh - l) (.kn (m - l))) h:=by
  intro i o len cap hh l m L hhm hL hb
  refine .same hr (pV ht hti hb) ?_
  have:=JO L ti.size o l m
  rw [show(if m=l then some (L.at o) else(some (L.at o)).map (·.add (l*ti.size)))=some (L.at (moved ti.size o l m)) from by rw [←this];split<;>rfl]
  exact fB hL ⟨rfl,by omega⟩
 cases x with
 |slice i o len cap=>
  obtain⟨L,k,hL,hcap,rfl⟩:=hx.slice
  cases cap with
  |kn c=>
   have hk:k=c:=hcap.1
   subst hk
   obtain⟨m,b1,e1⟩:=iE hmx e
   obtain⟨hh,l,hhm,hb,rfl,rfl⟩:=uQ (P:=P) (w:=w) (isS:=true) hlo hhi h4 b1 (Nat.le_refl _) e1
   exact key hhm hL hb
  |un u=>
   obtain⟨hk1,hk2⟩:=hcap
   cases mx with
   |none=>
    cases cmx with
    |some _=>exact hmx.elim
    |none=>
    have e:wG ti.size i o len u lo hi h=.ok r h':=e
    obtain⟨hh,b2,e1⟩:=iE hhi e
    obtain⟨l,b3,e1⟩:=iE hlo e1
    split at e1
    ·rename_i c1 c2 c3
     have c1':=Nat.le_of_ble_eq_true c1
     have c2':=Nat.le_of_ble_eq_true c2
     have c3':u=ti.size:=Nat.eq_of_beq_eq_true c3
     subst c3'
     have hb:=iI (P:=P) (w:=w) (isS:=true) (len:=len) (cap:=k) (mx:=none) (m:=k) rfl b2 b3 (.inl rfl) (Nat.le_refl _) (by omega) c2'
     have hrun:=pV (a:=some (L.at o)) ht hti hb
     cases l with
     |zero=>
      cases e1
      have e0:(if k=0 then some (L.at o) else(some (L.at o)).map (·.add (0*ti.size)))=some (L.at o):=by
       split
       ·rfl
       ·simp [Addr.add]
      rw [e0] at hrun
      exact .same hr hrun (fB hL ⟨by omega,by simpa using hk2⟩)
     |succ l=>
      simp only [] at e1
      split at e1
      ·rename_i c4
       have c4':l+1<len:=by simpa [Nat.blt_eq] using c4
       rw [bf,bf] at e1
       cases e1
       rw [if_neg (by omega)] at hrun
       have e0:(some (L.at o)).map (·.add ((l+1)*ti.size))=some (L.at (o+(l+1)*ti.size)):=by simp [Loc.nI]
       rw [e0] at hrun
       refine .same hr hrun (fB hL ⟨by omega,?_⟩)
       have e2:(k - (l+1))*ti.size+(l+1)*ti.size=k*ti.size:=by rw [←Nat.add_mul];congr 1;omega
       omega
      ·rename_i c4
       have c4':¬l+1<len:=fun hlt=>by
        have:Nat.blt (l+1) len=true:=by simpa [Nat.blt_eq] using hlt
        rw [this] at c4;cases c4
       cases e1
       have hz:hh - (l+1)=0:=by omega
       rw [hz] at hrun
       refine .same hr hrun ?_
       split
       ·exact⟨rfl,_,_,rfl⟩
       ·exact⟨rfl,_,_,rfl⟩
    ·cases e1
   |some mv=>
    cases cmx with
    |none=>exact hmx.elim
    |some c=>
    obtain⟨k',m,rfl,e1⟩:=kz e
    have hc:=Rp.int hmx
    obtain⟨hh,l,hhm,hb,rfl,rfl⟩:=uQ (P:=P) (w:=w) (isS:=true) (cap:=k) hlo hhi h4 ⟨k',hc⟩ (by omega) e1
    exact key hhm hL hb
 |af=>
  cases hx.af
  obtain⟨m,b1,e1⟩:=iE hmx e
  obtain⟨m',hm',hb,rfl,rfl⟩:=uP (P:=P) (w:=w) (isS:=true) (cap:=0) hlo hhi h4 (.inr b1) e1
  have hm0:m'=0:=by rcases hm' with h|h<;>exact h
  subst hm0
  exact .same hr (pV ht hti hb) (by simpa using hx)
 |emp=>
  obtain⟨ad,k,rfl⟩:=hx.emp
  cases mx with
  |some _=>cases e
  |none=>
   cases cmx with
   |some _=>exact hmx.elim
   |none=>
   obtain⟨m',hm',hb,rfl,rfl⟩:=uP (P:=P) (w:=w) (isS:=true) (cap:=k) hlo hhi h4 (.inl rfl) e
   refine .same hr (pV ht hti hb) ?_
   split
   ·exact⟨rfl,_,_,rfl⟩
   ·exact⟨rfl,_,_,rfl⟩
 |_=>cases e
theorem TL{t el:TypeId}{n:Nat}{ti:TypeInfo}(ht:P.underlying t=some (.array n el))(hti:P.info? el=some ti){x:V}{a:Value}{lo hi mx:Option V}{clo chi cmx:Option Value}(hr:Rel G M h w)(hx:Rp M x a)
  (hlo:jf M lo clo) (hhi:jf M hi chi) (hmx:jf M mx cmx) (e:nD ti.size n x lo hi mx h=.ok r h'):Good P G M h w (Instr.sliceAt t a clo chi cmx) r h':=by
 unfold nD at e
 split at e
 case h_2=>cases e
 rename_i hm
 have h4:=Jq hmx hhi hm
 clear hm
 obtain⟨i,o,rfl,e1⟩:=fO e
 obtain⟨L,hL,rfl⟩:=hx.ptr
 obtain⟨m,b1,e1⟩:=iE hmx e1
 obtain⟨hh,l,hhm,hb,rfl,rfl⟩:=uQ (P:=P) (w:=w) (isS:=false) hlo hhi h4 b1 (Nat.le_refl _) e1
 refine .same hr (c:=.slice (some (L.at (moved ti.size o l m))) (hh - l) (m - l)) ?_ (fB hL ⟨rfl,by omega⟩)
 simp [Instr.sliceAt,run_underlying ht,Instr.sureAddr,hb,sizeOf,typeInfo,hti,JO]
end
end Go.Vm
namespace Go.Vm
noncomputable section
variable{P:Program}{G:Nat}{M:Mp}{h h':Hp}{w:World}{r:V}
def u8s(s:List Nat):List V:=s.map fun b=>.int .u8 (.ofNat b)
def lY(sz:Nat)(x:V)(h:Hp)(k:Nat→List V→R V):R V:=
 match x with
 | .af=>k 0 []
 | .emp=>k 0 []
 | .slice j p n _=>dL h j fun _ cs=>(match fP (n*sz) (eY p cs) with|some l=>k n l|none=>.bad)
 | .str s=>(match Nat.beq sz 1 with|true=>k s.length (u8s s)|false=>.bad)
 |_=>.bad
def jI(el:TypeId)(sz bt n:Nat)(cs:List V)(h h0:Hp):R V:=
 match Nat.ble (Nat.mul n bt) 140737488355328 with
 |true=>.ok (.slice h.next 0 n (.un sz)) (h0.new (.cells (.rw el false) cs))
 |false=>.bad
def aFE(sz bt:Nat)(i:Pos)(o len need:Nat)(new cs:List V)(h:Hp):R V:=match h.get i with
 |some ob=>(match ob with
  | .bytes _=>(match fP (len*sz) (eY o cs) with
   |some old=>(match eY (len*sz) (eY o cs) with
    | []=>(match Nat.ble (Nat.mul need bt) 140737488355328 with
     |true=>.ok (.slice h.next 0 need (.un sz)) ((h.put i none).new (.bytes (old++new)))
     |false=>.bad)
    |_::_=>.bad)
   |none=>.bad)
  |_=>.bad)
 |none=>.bad
def dQ(el:TypeId)(sz bt:Nat)(s x:V)(h:Hp):R V:=
 lY sz x h fun n new=>match n with
 |0=>(match s with
  | .af=>.ok .af h
  | .emp=>.ok .emp h
  | .slice i o len cap=>.ok (.slice i o len cap) h
  |_=>.bad)
 |m+1=>(match s with
  | .af=>jI el sz bt (m+1) new h h
  | .slice i o len cap=>dL h i fun wr cs=>bQ (len+(m+1)) fun need=>(match cap with
   | .kn c=>(match Nat.ble need c with
    |true=>(match wr,iV (o+len*sz) new cs with
     | .rw t f,some cs'=>.ok (.slice i o need (.kn c)) (h.put i (some (.cells (.rw t f) cs')))
     |_,_=>.bad)
    |false=>(match fP (len*sz) (eY o cs) with
     |some old=>jI el sz bt need (old++new) h h
     |none=>.bad))
   | .un u=>(match wr,Nat.beq u sz with
    | .rw t f,true=>(match Nat.beq t el with
     |true=>(match fP (len*sz) (eY o cs) with
      |none=>.bad
      |some old=>(match eY (len*sz) (eY o cs) with
       | []=>jI el sz bt need (old++new) h (h.put i none)
       |_::_=>(match iV (o+len*sz) new cs with
        |some cs'=>.ok (.slice i o need (.un u)) (h.put i (some (.cells (.rw t f) cs')))
        |none=>.bad)))
     |false=>.bad)
    | .ro,true=>aFE sz bt i o len need new cs h
    |_,_=>.bad))
  |_=>.bad)
theorem iY{t t2 ty el:TypeId}{d2:TypeDesc}{ti:TypeInfo}(ht:P.underlying t=some (.slice el))(ht2:P.underlying t2=some d2)(hd2:∀k,d2≠ .int k)(hti:P.info? el=some ti)
  {base:Option Addr} {n cap m:Nat} {x:Value} (hm:(Builtin.lenOf x).run P w=.ok m w) {news:List Value} (hnews:(Builtin.firstCells ti.size m x).run P w=.ok news.toArray w) (hfit:n+m≤cap):
  (Builtin.append_ #[t,t2] ty #[.slice base n cap,x]).run P w=
   (match base with|some a=>((storeCells (a.add (n*ti.size)) news).run P w).andThen fun _ w'=>.ok (.slice base (n+m) cap) w'|none=>.ok (.slice base (n+m) cap) w):=by
 cases base<;>simp [Builtin.append_,run_underlying ht,run_underlying ht2,sizeOf,typeInfo,hti,hm,hfit,hnews]
theorem l7{t t2 ty el:TypeId}{d2:TypeDesc}{ti:TypeInfo}{z:Value}(ht:P.underlying t=some (.slice el))(ht2:P.underlying t2=some d2)(hd2:∀k,d2≠ .int k)(hti:P.info? el=some ti)(hz:ti.zero=some z)
  {base:Option Addr} {n cap m:Nat} {x:Value} (hm:(Builtin.lenOf x).run P w=.ok m w) {news olds:List Value} (hnews:(Builtin.firstCells ti.size m x).run P w.drew=.ok news.toArray w.drew)
  (holds:(Builtin.firstCells ti.size n (.slice base n cap)).run P w.drew=.ok olds.toArray w.drew) (hfit:cap<n+m) (hb:(n+m)*ti.bytes≤140737488355328) (hb0:0<ti.bytes):
  (Builtin.append_ #[t,t2] ty #[.slice base n cap,x]).run P w=
   .ok (.slice (some ⟨w.heap.size,0,none⟩) (n+m) (grownCap w (n+m) cap el)) (w.drew.alloc (.cells (olds.toArray++news.toArray++Builtin.zeroCells z.cells (grownCap w (n+m) cap el - (n+m))) el)):=by
 have hn:¬(n+m≤cap):=by omega
 have hle:n+m≤(n+m)*ti.bytes:=Nat.le_mul_of_pos_right _ hb0
 have h63':¬(9223372036854775807<((n:Int)+(m:Int))):=by omega
 have h48:=growslice_fits (bytes:=ti.bytes) hfit hb
 have h48':¬(281474976710656<Builtin.nextslicecap (n+m) cap*ti.bytes):=by omega
 simp [Builtin.append_,run_underlying ht,run_underlying ht2,sizeOf,typeInfo,zeroValue,hti,hz,hm,hn,h63',h48',Question.forced,hnews,holds,newRow,grownCap]
 congr 2
 apply Array.ext'
 simp [List.append_assoc]
theorem yA(s:ByteArray):(Builtin.lenOf (.string s)).run P w=.ok s.size w:=rfl
theorem xW{sz:Nat}{x:V}{c:Value}{k:Nat→List V→R V}(hr:Rel G M h w)(hx:Rp M x c)(e:lY sz x h k=.ok r h'):
  ∃(n:Nat) (new:List V) (news:List Value),k n new=.ok r h'∧(Builtin.lenOf c).run P w=.ok n w∧aX M new news∧new.length=n*sz∧(∀y∈news,scalar y=true)∧
   ∀w',w'.heap=w.heap→(Builtin.firstCells sz n c).run P w'=.ok news.toArray w':=by
 unfold lY at e
 split at e
 ·cases hx.af
  exact⟨0,[],[],e,rfl,rfl,by simp,by simp,fun w' _=>by simp [Builtin.firstCells]⟩
 ·obtain⟨a,k',rfl⟩:=hx.emp
  exact⟨0,[],[],e,rfl,rfl,by simp,by simp,fun w' _=>by simp [Builtin.firstCells,loadCells,loadCellsFrom]⟩
 ·rename_i j p n cap
  obtain⟨L,m,hL,_,rfl⟩:=hx.slice
  obtain⟨wr,cs,hi,e1⟩:=dG e
  split at e1
  ·rename_i l hl
   obtain⟨xs,hxl,hlen,hs,hc⟩:=hr.cells hi hL hl
   have hll:l.length=n*sz:=by rw [←hxl.length];exact hlen
   refine⟨n,l,xs,e1,rfl,hxl,hll,hs,fun w' hw=>?_⟩
   exact run_firstCells_some w' sz n (L.at p) n m xs hlen (fun j v hj=>by
    rw [←hc j v hj];simp [World.cell?,hw])
  ·cases e1
 ·rename_i s
  split at e
  ·rename_i h1
   have h1':sz=1:=Nat.eq_of_beq_eq_true h1
   subst h1'
   obtain⟨hs,rfl⟩:=hx.str
   refine⟨s.length,u8s s,s.map fun b=>.int .u8 (.ofNat b),e,by rw [yA,gW],?_,by simp [u8s],?_,fun w' _=>?_⟩
   ·refine aX.mk (by simp [u8s]) (fun i v hi=>?_)
    simp only [u8s,List.getElem?_map] at hi⊢
    cases hsi:s[i]? with
    |none=>rw [hsi] at hi;cases hi
    |some b=>rw [hsi] at hi;cases hi;exact⟨_,rfl,dK M _ _⟩
   ·intro y hy
    obtain⟨b,_,rfl⟩:=List.mem_map.1 hy
    rfl
   ·simp only [Builtin.firstCells]
    show Result.ok _ _=_
    congr 1
    apply Array.ext'
    have:((bts s).extract 0 s.length).data.toList=s.map UInt8.ofNat:=by
     rw [yg];simp [bts]
    simp only [Array.toList_map,this,List.map_map]
    apply List.map_congr_left
    intro b hb
    simp [oJ (hs b hb)]
  ·cases e
 ·cases e
theorem Rel.auH(hr:Rel G M h w){i:Pos}{o0:Ob}{L:Loc}(hi:h.get i=some o0)(hown:o0.own=true)(hL:M i=some L)(o:Nat)(nb:Ob){w':World}
  (hs:w'.heap.size=w.heap.size) (hoth:∀k,k≠L.blk→w'.heap[k]?=w.heap[k]?) (hos:w'.os=w.os) (ht:w'.tape=w.tape) (hout:w'.output=w.output)
  (hob:∀N:Mp,M.le N→dV N ⟨L.blk,L.off+o,L.size⟩ w' nb):
  Rel G (M.add h.next ⟨L.blk,L.off+o,L.size⟩) ((h.put i none).new nb) w'∧Ext M h w (M.add h.next ⟨L.blk,L.off+o,L.size⟩) ((h.put i none).new nb) w':=by
 have hnone:M h.next=none:=hr.fresh _ (Nat.le_refl _)
 have hle:=Mp.qQ hnone ⟨L.blk,L.off+o,L.size⟩
 have hin:i≠h.next:=hr.ne_next hL
 have hnx:(h.put i none).next=h.next:=rfl
 have get:∀{j:Pos} {p:Ob},j≠h.next→((h.put i none).new nb).get j=some p→j≠i∧h.get j=some p:=by
  intro j p hj hg
  rw [Hp.gV _ (by rw [hnx];exact hj)] at hg
  by_cases e:j=i
  ·subst e;rw [h.bC] at hg;cases hg
  ·rw [h.aY e] at hg;exact⟨e,hg⟩
 have getn:((h.put i none).new nb).get h.next=some nb:=Hp.lS (h.put i none) _
 have keep:∀{j:Pos} {p:Ob} {K:Loc},j≠i→h.get j=some p→M j=some K→K.blk≠L.blk:=fun hj hg hK e=>
  hr.sep i _ _ _ L _ (Ne.symm hj) hi hg hown hL hK e.symm
 refine⟨⟨fun j p hg=>?_,fun j hj=>?_,fun a b p q A B hn ha hb hp hA hB=>?_,fun g hg=>?_⟩,⟨hle,?_,hos,ht,hout,by omega,fun k hk hno=>hoth k (fun e=>hno i _ L hi hown hL e.symm),fun j p K hg hp hK=>?_,fun j hj hn=>?_,fun j p K hg hK=>?_,fun j hj hn=>?_⟩⟩
 ·by_cases e:j=h.next
  ·subst e
   rw [getn] at hg;cases hg
   exact⟨_,M.bZ _ _,hob _ hle⟩
  ·obtain⟨hji,hg'⟩:=get e hg
   obtain⟨K,hK,hrep⟩:=hr.ob j p hg'
   exact⟨K,by rw [M.dM e];exact hK,(hrep.of_block (hoth _ (keep hji hg' hK))).mono hle⟩
 ·have hs':((h.put i none).new nb).next.nat=h.next.nat+1:=Pos.dS _
  rw [hs'] at hj
  have e:j≠h.next:=fun e=>by rw [e] at hj;omega
  rw [M.dM e]
  exact hr.fresh j (by omega)
 ·by_cases ea:a=h.next
  ·subst ea
   rw [M.bZ] at hA;cases hA
   have eb:b≠h.next:=fun e=>hn e.symm
   obtain⟨hbi,hb'⟩:=get eb hb
   rw [M.dM eb] at hB
   exact fun e=>keep hbi hb' hB e.symm
  ·obtain⟨hai,ha'⟩:=get ea ha
   rw [M.dM ea] at hA
   by_cases eb:b=h.next
   ·subst eb
    rw [M.bZ] at hB;cases hB
    exact keep hai ha' hA
   ·obtain⟨hbi,hb'⟩:=get eb hb
    rw [M.dM eb] at hB
    exact hr.sep a b p q A B hn ha' hb' hp hA hB
 ·obtain⟨n',hg'⟩:=hr.gl g hg
  exact⟨n',hle _ _ hg'⟩
 ·show h.next.nat≤h.next.succ.nat
  rw [Pos.dS];omega
 ·by_cases e:j=h.next
  ·subst e
   rw [M.bZ] at hK;cases hK
   exact .inr ⟨i,_,L,hi,hown,hL,rfl⟩
  ·obtain⟨hji,hg'⟩:=get e hg
   rw [M.dM e] at hK
   exact .inr ⟨j,p,K,hg',hp,hK,rfl⟩
 ·have e:j≠h.next:=fun e=>by rw [e] at hj;omega
  rw [Hp.gV _ (by rw [hnx];exact e)]
  by_cases e2:j=i
  ·subst e2;exact h.bC _ _
  ·rw [h.aY e2];exact hn
 ·by_cases e:j=h.next
  ·subst e
   rw [M.bZ] at hK;cases hK
   exact .inr ⟨i,_,L,hi,hL,rfl⟩
  ·obtain⟨hji,hg'⟩:=get e hg
   rw [M.dM e] at hK
   exact .inr ⟨j,p,K,hg',hK,rfl⟩
 ·have e:j≠h.next:=fun e=>by rw [e] at hj;omega
  rw [M.dM e];exact hn
theorem Rel.over(hr:Rel G M h w){i:Pos}{cs:List V}{L:Loc}{t t':TypeId}{f f':Bool}(hi:h.get i=some (.cells (.rw t f) cs))(hL:M i=some L)(o:Nat)(vs:List V){w':World}
  (hs:w'.heap.size=w.heap.size) (hoth:∀k,k≠L.blk→w'.heap[k]?=w.heap[k]?) (hos:w'.os=w.os) (ht:w'.tape=w.tape) (hout:w'.output=w.output)
  (hob:∀N:Mp,M.le N→dV N ⟨L.blk,L.off+o,L.size⟩ w' (.cells (.rw t' f') vs)):
  Rel G (M.add h.next ⟨L.blk,L.off+o,L.size⟩) ((h.put i none).new (.cells (.rw t' f') vs)) w'∧Ext M h w (M.add h.next ⟨L.blk,L.off+o,L.size⟩) ((h.put i none).new (.cells (.rw t' f') vs)) w':=
 hr.auH hi rfl hL o _ hs hoth hos ht hout hob
theorem IX{b a:Nat}{c:Array Value}{el:TypeId}{fr:Nat×Nat}{xs:List Value}(hb:w.heap[b]?=some (.cells c el fr))(hin:∀j,j<xs.length→a+j<c.size)
  (hfr:∀j,j<xs.length→¬(fr.1≤a+j∧a+j<fr.2)) (h1:∀x∈xs,scalar x=true):
  ∃w' c',(storeCells ⟨b,a,none⟩ xs).run P w=.ok () w'∧w'.heap[b]?=some (.cells c' el fr)∧c'.size=c.size∧(∀k,c'[k]?=if a≤k∧k<a+xs.length then xs[k - a]? else c[k]?)∧
   (∀k,k≠b→w'.heap[k]?=w.heap[k]?)∧w'.heap.size=w.heap.size∧w'.os=w.os∧w'.tape=w.tape∧w'.output=w.output:=by
 have hrun:=run_storeCells_cells (P:=P) b a xs 0 w
  (fun j hj=>by
   have:=hin j hj
   simp [World.cell?,hb,this])
  (fun j hj=>by
   have:=hfr j hj
   simp [World.frozen?,hb];omega)
  (fun v hv=>nT (h1 v hv))
 simp only [Nat.add_zero] at hrun
 have key:∀(xs:List Value) (a:Nat) (c:Array Value) (w:World),w.heap[b]?=some (.cells c el fr)→(∀j,j<xs.length→a+j<c.size)→
   ∃c',(w.setCells b a xs).heap[b]?=some (.cells c' el fr)∧c'.size=c.size∧(∀k,c'[k]?=if a≤k∧k<a+xs.length then xs[k - a]? else c[k]?):=by
  intro xs
  induction xs with
  |nil=>intro a c w hw _;exact⟨c,hw,rfl,fun k=>by rw [if_neg (by simp<;>omega)]⟩
  |cons x xs ih=>
   intro a c w hw hlt
   have hw':(w.setCell ⟨b,a,none⟩ x).heap[b]?=some (.cells (c.setIfInBounds a x) el fr):=by
    simp [World.setCell,Array.getElem?_modify,hw]
   obtain⟨c',h1,h2,h3⟩:=ih (a+1) (c.setIfInBounds a x) _ hw' (fun j hj=>by have:=hlt (j+1) (by simp;omega);simp;omega)
   refine⟨c',h1,by simpa using h2,fun k=>?_⟩
   rw [h3 k]
   have ha:=hlt 0 (by simp)
   by_cases e:k=a
   ·subst e
    rw [if_neg (by omega),if_pos (by simp)]
    rw [Nat.sub_self,Array.getElem?_setIfInBounds_self_of_lt (by simpa using ha)]
    rfl
   ·by_cases hk:a+1≤k∧k<a+1+xs.length
    ·rw [if_pos hk,if_pos (by simp;omega),show k - a=(k - (a+1))+1 from by omega]
     simp
    ·rw [if_neg hk,if_neg (by simp at hk⊢;omega),Array.getElem?_setIfInBounds_ne (by omega)]
 have hoth:∀(xs:List Value) (a:Nat) (w:World) (k:Nat),k≠b→(w.setCells b a xs).heap[k]?=w.heap[k]?:=by
  intro xs
  induction xs with
  |nil=>intros;rfl
  |cons x xs ih=>intro a w k hk;rw [World.setCells,ih _ _ _ hk];exact Go.RowKit.Below.heap_setCell _ _ _ _ hk
 have hrest:∀(xs:List Value) (a:Nat) (w:World),(w.setCells b a xs).heap.size=w.heap.size∧(w.setCells b a xs).os=w.os∧(w.setCells b a xs).tape=w.tape∧(w.setCells b a xs).output=w.output:=by
  intro xs
  induction xs with
  |nil=>intros;exact⟨rfl,rfl,rfl,rfl⟩
  |cons x xs ih=>intro a w;obtain⟨h1,h2,h3,h4⟩:=ih (a+1) (w.setCell ⟨b,a,none⟩ x);exact⟨by rw [World.setCells,h1];simp [World.setCell],h2,h3,h4⟩
 obtain⟨c',k1,k2,k3⟩:=key xs a c w hb hin
 obtain⟨g1,g2,g3,g4⟩:=hrest xs a w
 exact⟨_,c',hrun,k1,k2,k3,fun k hk=>hoth xs a w k hk,g1,g2,g3,g4⟩
structure ElemOk (P:Program) (el:TypeId) (ti:TypeInfo) (z:Value):Prop where
 info:P.info? el=some ti
 zero:ti.zero=some z
 cells:z.cells.size=ti.size
 plain:∀y∈z.cells.toList,scalar y=true
 size:0<ti.size
 bytes:0<ti.bytes
theorem uq{z:Array Value}(hz:∀y∈z.toList,scalar y=true)(hs:0<z.size)(n:Nat):∀y∈(Builtin.zeroCells z n).toList,scalar y=true:=by
 intro y hy
 simp only [Builtin.zeroCells,Array.toList_map,List.mem_map] at hy
 obtain⟨i,_,rfl⟩:=hy
 have hlt:i % z.size<z.size:=Nat.mod_lt _ hs
 rw [getElem!_pos z _ hlt]
 exact hz _ (by simp)
theorem KD{el:TypeId}{ti:TypeInfo}{z:Value}(E:ElemOk P el ti z){h0:Hp}(hr:Rel G M h0 w)(hnx:h0.next=h.next){n C:Nat}{vs:List V}{xs:List Value}(hv:aX M vs xs)(hl:vs.length=n*ti.size)(h1:∀y∈xs,scalar y=true)
  (hC:n≤C) (hC2:n≤9223372036854775807→C≤9223372036854775807) (e:jI el ti.size ti.bytes n vs h h0=.ok r h'):
  ∃M',Rp M' r (.slice (some ⟨w.heap.size,0,none⟩) n C)∧Rel G M' h' (w.drew.alloc (.cells (xs.toArray++Builtin.zeroCells z.cells (C - n)) el))∧
   Ext M h0 w M' h' (w.drew.alloc (.cells (xs.toArray++Builtin.zeroCells z.cells (C - n)) el))∧n*ti.bytes≤140737488355328:=by
 unfold jI at e
 split at e
 ·rename_i hb
  cases e
  have hb':n*ti.bytes≤140737488355328:=Nat.le_of_ble_eq_true hb
  have hxl:=hv.length
  have hsz:(xs.toArray++Builtin.zeroCells z.cells (C - n)).size=C*ti.size:=by
   rw [Array.size_append,size_zeroCells,E.cells,List.size_toArray,hxl,hl,←Nat.add_mul]
   congr 1;omega
  have:=hr.row vs (xs.toArray++Builtin.zeroCells z.cells (C - n)) el (0,0) (w':=w.drew.alloc (.cells (xs.toArray++Builtin.zeroCells z.cells (C - n)) el))
   (by simp only [Array.toList_append];rw [←hxl,List.take_left];exact hv)
   (fun y hy=>by
    simp only [Array.toList_append,List.mem_append] at hy
    rcases hy with hy|hy
    ·exact h1 y hy
    ·exact uq E.plain (by rw [E.cells];exact E.size) _ y hy)
   (by simp) false (fun h=>by cases h) rfl rfl rfl rfl
  refine⟨_,?_,this.1,this.2,hb'⟩
  have hk:(M.add h0.next ⟨w.heap.size,0,(xs.toArray++Builtin.zeroCells z.cells (C - n)).size⟩) h.next=some ⟨w.heap.size,0,(xs.toArray++Builtin.zeroCells z.cells (C - n)).size⟩:=by
   rw [←hnx];exact M.bZ _ _
  have hn:n≤n*ti.bytes:=Nat.le_mul_of_pos_right _ E.bytes
  exact fB (o:=0) hk ⟨⟨hC,hC2 (by omega)⟩,by show 0+0+C*ti.size=(xs.toArray++Builtin.zeroCells z.cells (C - n)).size;rw [hsz];omega⟩
 ·cases e
theorem ajT{el:TypeId}{ti:TypeInfo}{z:Value}(E:ElemOk P el ti z){h0:Hp}(hr:Rel G M h0 w)(hnx:h0.next=h.next){n C:Nat}{vs:List V}{xs:List Value}(hv:aX M vs xs)(hl:vs.length=n*ti.size)(h1:∀y∈xs,scalar y=true)
  (hC:n≤C) (hC2:C≤9223372036854775807):
  ∃M',Rp M' (.slice h.next 0 n (.un ti.size)) (.slice (some ⟨w.heap.size,0,none⟩) n C)∧Rel G M' (h0.new (.bytes vs)) (w.drew.alloc (.cells (xs.toArray++Builtin.zeroCells z.cells (C - n)) el))∧
   Ext M h0 w M' (h0.new (.bytes vs)) (w.drew.alloc (.cells (xs.toArray++Builtin.zeroCells z.cells (C - n)) el)):=by
 have hxl:=hv.length
 have hsz:(xs.toArray++Builtin.zeroCells z.cells (C - n)).size=C*ti.size:=by
  rw [Array.size_append,size_zeroCells,E.cells,List.size_toArray,hxl,hl,←Nat.add_mul]
  congr 1;omega
 have:=hr.new (.bytes vs) (.cells (xs.toArray++Builtin.zeroCells z.cells (C - n)) el (0,0)) (xs.toArray++Builtin.zeroCells z.cells (C - n)).size (w':=w.drew.alloc (.cells (xs.toArray++Builtin.zeroCells z.cells (C - n)) el))
  rfl rfl rfl rfl (fun N hle=>⟨_,el,(0,0),by simp only [World.alloc];exact Array.getElem?_push_size,rfl,fun k v hk=>by
   obtain⟨x,hx',hrx⟩:=hv.get hk
   have hlt:=(List.getElem?_eq_some_iff.1 hx').1
   refine⟨x,?_,hrx.mono hle,h1 x (List.mem_of_getElem? hx')⟩
   show(xs.toArray++Builtin.zeroCells z.cells (C - n))[0+k]?=some x
   rw [Nat.zero_add,Array.getElem?_append_left (by simpa using hlt)]
   simpa using hx',fun k _ _ h=>by simp at h⟩)
 have hk:(M.add h0.next ⟨w.heap.size,0,(xs.toArray++Builtin.zeroCells z.cells (C - n)).size⟩) h.next=some ⟨w.heap.size,0,(xs.toArray++Builtin.zeroCells z.cells (C - n)).size⟩:=by
  rw [←hnx];exact M.bZ _ _
 exact⟨_,fB (o:=0) hk ⟨⟨hC,hC2⟩,by show 0+0+C*ti.size=(xs.toArray++Builtin.zeroCells z.cells (C - n)).size;rw [hsz];omega⟩,this.1,this.2.1⟩
theorem Gh{t t2 ty el:TypeId}{d2:TypeDesc}{ti:TypeInfo}{z:Value}(ht:P.underlying t=some (.slice el))(ht2:P.underlying t2=some d2)(hd2:∀k,d2≠ .int k)(E:ElemOk P el ti z)
  {s x:V} {a c:Value} (hr:Rel G M h w) (hs:Rp M s a) (hx:Rp M x c) (e0:dQ el ti.size ti.bytes s x h=.ok r h'):Good P G M h w (Builtin.append_ #[t,t2] ty #[a,c]) r h':=by
 obtain⟨n,new,news,e,hlen,hnew,hnl,hns,hnews⟩:=xW (P:=P) hr hx e0
 clear e0
 have hdrew:w.drew.heap=w.heap:=rfl
 have hnwl:=hnew.length
 cases n with
 |zero=>
  have hnn:news= []:=by
   have:news.length=0:=by rw [hnwl,hnl];omega
   exact List.length_eq_zero_iff.1 this
  subst hnn
  simp only [] at e
  split at e
  ·cases e
   cases hs.af
   refine .same hr (c:=.slice none 0 0) ?_ hs
   rw [iY ht ht2 hd2 E.info hlen (hnews w rfl) (by omega)]
  ·cases e
   obtain⟨ad,k,rfl⟩:=hs.emp
   refine .same hr (c:=.slice (some ad) 0 k) ?_ hs
   rw [iY ht ht2 hd2 E.info hlen (hnews w rfl) (by omega)]
   rfl
  ·cases e
   obtain⟨L,k,hL,hc,rfl⟩:=hs.slice
   refine .same hr (c:=.slice (some (L.at _)) _ k) ?_ hs
   rw [iY ht ht2 hd2 E.info hlen (hnews w rfl) (by rename_i cap;cases cap<;>simp only [xU] at hc<;>omega)]
   rfl
  ·cases e
 |succ m=>
  simp only [] at e
  split at e
  ·
   cases hs.af
   obtain⟨M',h1,h2,h3,h4⟩:=KD (n:=m+1) (C:=grownCap w (0+(m+1)) 0 el) E hr rfl hnew hnl hns (by have:=grownCap_ge w (0+(m+1)) 0 el;omega) (fun hh=>grownCap_le_maxLen _ _ _ _ (by rw [Nat.zero_add];exact hh)) e
   refine⟨_,_,M',?_,h1,h2,h3⟩
   have:=l7 (ty:=ty) (olds:= []) (base:=none) (n:=0) (cap:=0) ht ht2 hd2 E.info E.zero hlen (hnews _ hdrew) (by simp [Builtin.firstCells]) (by omega) (by rw [Nat.zero_add];exact h4) E.bytes
   rw [this]
   simp
  ·rename_i i o len cap
   obtain⟨L,k,hL,hc,rfl⟩:=hs.slice
   obtain⟨wr,cs,hi,e1⟩:=dG e
   clear e
   rw [bf] at e1
   have e:=e1
   clear e1
   have room:∀{cs':List V} {t0:TypeId} {f0:Bool},wr=.rw t0 f0→iV (o+len*ti.size) new cs=some cs'→len+(m+1)≤k→∀cp,xU L o (len+(m+1)) cp k→R.ok (V.slice i o (len+(m+1)) cp) (h.put i (some (.cells (.rw t0 f0) cs')))=.ok r h'→
     Good P G M h w (Builtin.append_ #[t,t2] ty #[.slice (some (L.at o)) len k,c]) r h':=by
    intro cs' t0 f0 hw hp hle cp hcp e2
    subst hw
    cases e2
    obtain⟨w',g1,g2,g3⟩:=hr.store (P:=P) (gZ hi) hL hp hnew hns
    refine⟨.slice (some (L.at o)) (len+(m+1)) k,w',M,?_,fB hL hcp,g2,g3⟩
    rw [iY ht ht2 hd2 E.info hlen (hnews w rfl) hle]
    simp only [Loc.nI,g1]
    rfl
   have grow:∀{old:List V} {h0:Hp},fP (len*ti.size) (eY o cs)=some old→Rel G M h0 w→h0.next=h.next→Ext M h w M h0 w→k<len+(m+1)→
     jI el ti.size ti.bytes (len+(m+1)) (old++new) h h0=.ok r h'→Good P G M h w (Builtin.append_ #[t,t2] ty #[.slice (some (L.at o)) len k,c]) r h':=by
    intro old h0 ho hr0 hnx hext hlt e2
    obtain⟨olds,ho1,ho2,ho3,ho4⟩:=hr.cells hi hL ho
    have hol:old.length=len*ti.size:=by rw [←ho1.length];exact ho2
    obtain⟨M',h1,h2,h3,h4⟩:=KD (n:=len+(m+1)) (C:=grownCap w (len+(m+1)) k el) E hr0 hnx (aX.append ho1 hnew) (by rw [List.length_append,hol,hnl,←Nat.add_mul])
     (fun y hy=>(List.mem_append.1 hy).elim (ho3 y) (hns y)) (grownCap_ge _ _ _ _) (fun hh=>grownCap_le_maxLen _ _ _ _ hh) e2
    refine⟨_,_,M',?_,h1,h2,hext.trans h3⟩
    have:=l7 (ty:=ty) (olds:=olds) (base:=some (L.at o)) (n:=len) (cap:=k) ht ht2 hd2 E.info E.zero hlen (hnews _ hdrew)
     (run_firstCells_some _ _ _ _ _ _ olds ho2 (fun j v hj=>by rw [←ho4 j v hj];rfl)) hlt h4 E.bytes
    rw [this]
    simp
   cases cap with
   |kn cc=>
    obtain⟨rfl,hcl⟩:=hc
    simp only [] at e
    split at e
    ·rename_i hle
     split at e
     ·rename_i hp
      exact room rfl hp (Nat.le_of_ble_eq_true hle) (.kn k) ⟨rfl,Nat.le_of_ble_eq_true hle⟩ e
     ·cases e
    ·rename_i hle
     split at e
     ·rename_i old ho
      refine grow ho hr rfl (.refl hr) ?_ e
      have:¬len+(m+1)≤k:=fun hh=>by rw [Nat.ble_eq_true_of_le hh] at hle;cases hle
      omega
     ·cases e
   |un u=>
    obtain⟨hk1,hk2⟩:=hc
    simp only [] at e
    split at e
    ·rename_i hu
     have hu':u=ti.size:=Nat.eq_of_beq_eq_true hu
     subst hu'
     rename_i t0 f0
     split at e
     rotate_left
     ·cases e
     rename_i hte
     have hte':t0=el:=Nat.eq_of_beq_eq_true hte
     subst hte'
     split at e
     ·cases e
     ·rename_i old ho
      split at e
      ·rename_i hd
       by_cases hle:len+(m+1)≤k
       ·obtain⟨L',hL',cc,el',fr,hb,hsz,hcell,hfr⟩:=hr.ob i _ (gZ hi)
        rw [hL] at hL';cases hL'
        obtain⟨olds,ho1,ho2,ho3,ho4⟩:=hr.cells hi hL ho
        have hol:old.length=len*ti.size:=by rw [←ho1.length];exact ho2
        have hmul:(len+(m+1))*ti.size≤k*ti.size:=Nat.mul_le_mul_right _ hle
        rw [Nat.add_mul] at hmul
        have hin:∀j,j<news.length→L.off+(o+len*ti.size)+j<cc.size:=fun j hj=>by rw [hnwl,hnl] at hj;omega
        obtain⟨w',c',g1,g2,g3,g4,g5,g6,g7,g8,g9⟩:=IX (P:=P) (a:=L.off+(o+len*ti.size)) hb hin (fun j hj=>hfr.2.1 _ (by omega) (by have:=hin j hj;omega)) hns
        unfold jI at e
        split at e
        ·cases e
         have hcell':∀(N:Mp),M.le N→∀(q:Nat) (v:V),(old++new)[q]?=some v→∃x,c'[L.off+o+q]?=some x∧Rp N v x∧scalar x=true:=by
          intro N hle' q v hq
          rw [g4]
          rw [List.getElem?_append] at hq
          split at hq
          ·rename_i hql
           rw [if_neg (by omega)]
           obtain⟨hq1,hq2⟩:=rU _ ho
           rw [hq2,iT,List.getElem?_take] at hq
           rw [if_pos (by omega),List.getElem?_drop] at hq
           obtain⟨x,x1,x2,x3⟩:=hcell _ _ hq
           exact⟨x,by rw [←x1];congr 1;omega,x2.mono hle',x3⟩
          ·rename_i hql
           obtain⟨x,x1,x2⟩:=hnew.get hq
           have hxl:q - old.length<news.length:=(List.getElem?_eq_some_iff.1 x1).1
           rw [if_pos (by omega)]
           exact⟨x,by rw [←x1];congr 1;omega,x2.mono hle',hns x (List.mem_of_getElem? x1)⟩
         have hov:=hr.over (t':=t0) (f':=false) (gZ hi) hL o (old++new) (w':=w') g6 (fun q hq=>g5 q hq) g7 g8 g9 (fun N hN=>⟨c',el',fr,g2,g3.trans hsz,hcell' N hN,hfr.1,fun q hq1 hq2=>hfr.2.1 q (by simp only [] at hq1;omega) hq2,fun h=>(by cases h)⟩)
         refine⟨.slice (some (L.at o)) (len+(m+1)) k,w',_,?_,?_,hov.1,hov.2⟩
         ·rw [iY ht ht2 hd2 E.info hlen (hnews w rfl) hle]
          simp only [Loc.nI]
          have:(storeCells (L.at (o+len*ti.size)) news).run P w=.ok () w':=g1
          rw [this]
          rfl
         ·have:=fB (o:=0) (n:=len+(m+1)) (k:=.un ti.size) (m:=k) (M.bZ h.next ⟨L.blk,L.off+o,L.size⟩) ⟨⟨hle,hk1.2⟩,by show L.off+o+0+k*ti.size=L.size;omega⟩
          exact this
        ·cases e
       ·have hd:=hr.drop i
        exact grow ho hd.1 rfl hd.2 (by omega) e
      ·rename_i v vs hd
       split at e
       ·rename_i hp
        have hpos:0<(m+1)*ti.size:=Nat.mul_pos (by omega) E.size
        obtain⟨hfit,_⟩:=kY _ _ hp
        obtain⟨L',hL',cc,el',fr,hb,hsz,hcell,hfr⟩:=hr.ob i _ (gZ hi)
        rw [hL] at hL';cases hL'
        have hle:len+(m+1)≤k:=by
         have h1:(len+(m+1))*ti.size≤k*ti.size:=by
          rw [Nat.add_mul]
          have hlast:0<cs.length:=by omega
          obtain⟨x,hx1,_⟩:=hcell (cs.length - 1) cs[cs.length - 1] (List.getElem?_eq_getElem (by omega))
          have:=(Array.getElem?_eq_some_iff.1 hx1).1
          omega
         exact Nat.le_of_mul_le_mul_right h1 E.size
        exact room rfl hp hle (.un ti.size) ⟨⟨hle,hk1.2⟩,hk2⟩ e
       ·cases e
    ·
     rename_i hu
     have hu':u=ti.size:=Nat.eq_of_beq_eq_true hu
     subst hu'
     unfold aFE at e
     split at e
     ·rename_i ob hob
      split at e
      ·rename_i cs0
       rw [hob] at hi
       cases hi
       split at e
       ·rename_i old ho
        split at e
        ·rename_i hd
         split at e
         ·rename_i hbig
          have hbig':(len+(m+1))*ti.bytes≤140737488355328:=Nat.le_of_ble_eq_true hbig
          cases e
          have hi':(h.get i).bind Ob.row=some (.ro,cs):=by rw [hob];rfl
          obtain⟨olds,ho1,ho2,ho3,ho4⟩:=hr.cells hi' hL ho
          have hol:old.length=len*ti.size:=by rw [←ho1.length];exact ho2
          obtain⟨L',hL',cc,el',fr,hb,hsz,hcell,hfr⟩:=hr.ob i _ hob
          rw [hL] at hL';cases hL'
          by_cases hle:len+(m+1)≤k
          ·have hmul:(len+(m+1))*ti.size≤k*ti.size:=Nat.mul_le_mul_right _ hle
           rw [Nat.add_mul] at hmul
           have hin:∀j,j<news.length→L.off+(o+len*ti.size)+j<cc.size:=fun j hj=>by rw [hnwl,hnl] at hj;omega
           obtain⟨w',c',g1,g2,g3,g4,g5,g6,g7,g8,g9⟩:=IX (P:=P) (a:=L.off+(o+len*ti.size)) hb hin (fun j hj=>hfr _ (by omega) (by have:=hin j hj;omega)) hns
           have hcell':∀(N:Mp),M.le N→∀(q:Nat) (v:V),(old++new)[q]?=some v→∃x,c'[L.off+o+q]?=some x∧Rp N v x∧scalar x=true:=by
            intro N hle' q v hq
            rw [g4]
            rw [List.getElem?_append] at hq
            split at hq
            ·rename_i hql
             rw [if_neg (by omega)]
             obtain⟨hq1,hq2⟩:=rU _ ho
             rw [hq2,iT,List.getElem?_take] at hq
             rw [if_pos (by omega),List.getElem?_drop] at hq
             obtain⟨x,x1,x2,x3⟩:=hcell _ _ hq
             exact⟨x,by rw [←x1];congr 1;omega,x2.mono hle',x3⟩
            ·rename_i hql
             obtain⟨x,x1,x2⟩:=hnew.get hq
             have hxl:q - old.length<news.length:=(List.getElem?_eq_some_iff.1 x1).1
             rw [if_pos (by omega)]
             exact⟨x,by rw [←x1];congr 1;omega,x2.mono hle',hns x (List.mem_of_getElem? x1)⟩
           have hov:=hr.auH hob rfl hL o (.bytes (old++new)) (w':=w') g6 (fun q hq=>g5 q hq) g7 g8 g9 (fun N hN=>⟨c',el',fr,g2,g3.trans hsz,hcell' N hN,fun q hq1 hq2=>hfr q (by simp only [] at hq1;omega) hq2⟩)
           refine⟨.slice (some (L.at o)) (len+(m+1)) k,w',_,?_,?_,hov.1,hov.2⟩
           ·rw [iY ht ht2 hd2 E.info hlen (hnews w rfl) hle]
            simp only [Loc.nI]
            have:(storeCells (L.at (o+len*ti.size)) news).run P w=.ok () w':=g1
            rw [this]
            rfl
           ·exact fB (o:=0) (n:=len+(m+1)) (k:=.un ti.size) (m:=k) (M.bZ h.next ⟨L.blk,L.off+o,L.size⟩) ⟨⟨hle,hk1.2⟩,by show L.off+o+0+k*ti.size=L.size;omega⟩
          ·have hdr:=hr.drop i
           have hn1:len+(m+1)≤(len+(m+1))*ti.bytes:=Nat.le_mul_of_pos_right _ E.bytes
           obtain⟨M',h1,h2,h3⟩:=ajT (h:=h) (n:=len+(m+1)) (C:=grownCap w (len+(m+1)) k el) E hdr.1 rfl (aX.append ho1 hnew) (by rw [List.length_append,hol,hnl,←Nat.add_mul])
            (fun y hy=>(List.mem_append.1 hy).elim (ho3 y) (hns y)) (grownCap_ge _ _ _ _) (grownCap_le_maxLen _ _ _ _ (by show _≤9223372036854775807;omega))
           refine⟨_,_,M',?_,h1,h2,hdr.2.trans h3⟩
           have:=l7 (ty:=ty) (olds:=olds) (base:=some (L.at o)) (n:=len) (cap:=k) ht ht2 hd2 E.info E.zero hlen (hnews _ hdrew)
            (run_firstCells_some _ _ _ _ _ _ olds ho2 (fun j v hj=>by rw [←ho4 j v hj];rfl)) (by omega) hbig' E.bytes
           rw [this]
           simp
         ·cases e
        ·cases e
       ·cases e
      ·cases e
     ·cases e
    ·cases e
  ·cases e
end
end Go.Vm
namespace Go.Vm
noncomputable section
variable{P:Program}{G:Nat}{M:Mp}{h h':Hp}{w:World}{r:V}
def Dt:Value→Option V
 | .bool b=>some (.bool b)
 | .int k n=>some (.int k n)
 | .string s=>some (.str (s.data.toList.map UInt8.toNat))
 | .pointer none=>some .fJ
 | .slice none 0 0=>some .af
 | .map none=>some .gG
 | .nilFunc=>some .iR
 | .nilIface=>some .iw
 |_=>none
def nH:List Value→Option (List V)
 | []=>some []
 |v::l=>(match Dt v,nH l with|some a,some r=>some (a::r)|_,_=>none)
def const:Value→Option V
 | .agg cs=>(match nH cs.toList with|some l=>some (.agg (V.ofList l))|none=>none)
 | .tuple cs=>(match cs.toList with| []=>some V.undef|_=>none)
 |v=>Dt v
theorem aFz(s:ByteArray):bts (s.data.toList.map UInt8.toNat)=s:=by
 apply ByteArray.ext
 simp only [bts,List.map_map]
 have:UInt8.ofNat∘UInt8.toNat=id:=by funext x;simp
 rw [this];simp
theorem F9{v:Value}{a:V}(e:Dt v=some a)(M:Mp):Rp M a v∧scalar v=true:=by
 unfold Dt at e
 split at e<;>cases e
 ·exact⟨⟨rfl,rfl⟩,rfl⟩
 ·exact⟨⟨rfl,rfl⟩,rfl⟩
 ·refine⟨⟨rfl,?_,?_⟩,rfl⟩
  ·intro b hb
   obtain⟨c,_,rfl⟩:=List.mem_map.1 hb
   exact c.toNat_lt
  ·rw [aFz]
 ·exact⟨⟨rfl,rfl⟩,rfl⟩
 ·exact⟨⟨rfl,rfl⟩,rfl⟩
 ·exact⟨⟨rfl,rfl⟩,rfl⟩
 ·exact⟨⟨rfl,rfl⟩,rfl⟩
 ·exact⟨⟨rfl,rfl⟩,rfl⟩
theorem lH:∀{l:List Value} {r:List V},nH l=some r→∀M:Mp,aX M r l∧∀y∈l,scalar y=true
 | [],r,e,M=>by cases e;exact⟨rfl,by simp⟩
 |v::l,r,e,M=>by
  simp only [nH] at e
  split at e
  ·rename_i a t ha ht
   cases e
   obtain⟨h1,h2⟩:=F9 ha M
   obtain⟨h3,h4⟩:=lH ht M
   exact⟨⟨v,l,h1,h3,rfl⟩,fun y hy=>by rcases List.mem_cons.1 hy with rfl|hy;exact h2;exact h4 y hy⟩
  ·cases e
theorem o8{v:Value}{a:V}(e:const v=some a)(M:Mp):Rp M a v:=by
 unfold const at e
 split at e
 ·rename_i cs
  split at e
  ·rename_i l hl
   cases e
   obtain⟨h1,h2⟩:=lH hl M
   exact uS (xs:=cs.toList) h1 h2
  ·cases e
 ·rename_i cs
  split at e
  ·rename_i hc
   cases e
   have:cs= #[]:=by apply Array.ext';exact hc
   subst this
   exact gu M
  ·cases e
 ·exact(F9 e M).1
def wZ:List V→List (Nat×Nat×V)→Option (List V)
 |cs,[]=>some cs
 |cs,(off,size,v)::rest=>(match kT v,Nat.beq v.cells.length size with
  |true,true=>(match iV off v.cells cs with|some cs'=>wZ cs' rest|none=>none)
  |_,_=>none)
def placed(place:Nat→Option (Nat×Nat)):List (Nat×V)→Option (List (Nat×Nat×V))
 | []=>some []
 |(i,v)::rest=>(match place i,placed place rest with|some p,some r=>some ((p.1,p.2,v)::r)|_,_=>none)
theorem foldl_set(off:Nat):∀(cs:List Value) (j:Nat) (xs:Array Value),off+j+cs.length≤xs.size→
  ((cs.zipIdx j).foldl (fun a (p:Value×Nat)=>a.setIfInBounds (off+p.2) p.1) xs).size=xs.size∧
  ∀k,((cs.zipIdx j).foldl (fun a (p:Value×Nat)=>a.setIfInBounds (off+p.2) p.1) xs)[k]?=if off+j≤k∧k<off+j+cs.length then cs[k - (off+j)]? else xs[k]?:=by
 intro cs
 induction cs with
 |nil=>intro j xs _;exact⟨rfl,fun k=>by rw [if_neg (by simp<;>omega)];rfl⟩
 |cons c cs ih=>
  intro j xs hl
  simp only [List.zipIdx_cons,List.foldl_cons]
  have hl':off+(j+1)+cs.length≤(xs.setIfInBounds (off+j) c).size:=by simp at hl⊢;omega
  obtain⟨h1,h2⟩:=ih (j+1) (xs.setIfInBounds (off+j) c) hl'
  refine⟨by rw [h1];simp,fun k=>?_⟩
  rw [h2 k]
  by_cases e:k=off+j
  ·subst e
   rw [if_neg (by omega),if_pos (by simp)]
   rw [Nat.sub_self,Array.getElem?_setIfInBounds_self_of_lt (by simp at hl;omega)]
   rfl
  ·by_cases hk:off+(j+1)≤k∧k<off+(j+1)+cs.length
   ·rw [if_pos hk,if_pos (by simp;omega),show k - (off+j)=(k - (off+(j+1)))+1 from by omega]
    simp
   ·rw [if_neg hk,if_neg (by simp at hk⊢;omega),Array.getElem?_setIfInBounds_ne (by omega)]
theorem Eh{place:Nat→Option (Nat×Nat)}:∀{ps:List (Nat×V)} {qs:List (Nat×Nat×V)} {cs:List V} {r:List V} {ys:List (Nat×Value)} {xs:Array Value},
  placed place ps=some qs→wZ cs qs=some r→aX M cs xs.toList→(∀y∈xs.toList,scalar y=true)→ps.map (·.1)=ys.map (·.1)→aX M (ps.map (·.2)) (ys.map (·.2))→
  ∃xs',Instr.fill place xs ys=some xs'∧aX M r xs'.toList∧∀y∈xs'.toList,scalar y=true:=by
 intro ps
 induction ps with
 |nil=>
  intro qs cs r ys xs hp hf hx hs h1 h2
  cases ys with
  |cons y ys=>cases h1
  |nil=>
   cases hp;cases hf
   exact⟨xs,rfl,hx,hs⟩
 |cons p ps ih=>
  intro qs cs r ys xs hp hf hx hs h1 h2
  cases ys with
  |nil=>cases h1
  |cons y ys=>
   obtain⟨i,v⟩:=p
   obtain⟨i',c⟩:=y
   simp only [List.map_cons,List.cons.injEq] at h1
   obtain⟨rfl,h1⟩:=h1
   simp only [List.map_cons] at h2
   obtain⟨x,xt,hv,hrest,he⟩:=h2
   simp only [List.cons.injEq] at he
   obtain⟨rfl,rfl⟩:=he
   simp only [placed] at hp
   split at hp
   ·rename_i q r' hq hr'
    cases hp
    simp only [wZ] at hf
    split at hf
    ·rename_i hn hb
     split at hf
     ·rename_i cs' hput
      have hsz:=Nat.eq_of_beq_eq_true hb
      have hvc:=hv.cells
      have hvl:=hvc.length
      obtain⟨hfit,_⟩:=kY _ _ hput
      have hxl:=hx.length
      have hlen:xs.size=cs.length:=by simpa using hxl
      have hcl:c.cells.size=v.cells.length:=by simpa using hvl
      have hfold:=foldl_set q.1 c.cells.toList 0 xs (by simp;omega)
      simp only [Nat.add_zero] at hfold
      obtain⟨f1,f2⟩:=hfold
      have hfoldA:c.cells.zipIdx.foldl (fun cs x=>match x with|(c,j)=>cs.setIfInBounds (q.1+j) c) xs=(c.cells.toList.zipIdx 0).foldl (fun a (p:Value×Nat)=>a.setIfInBounds (q.1+p.2) p.1) xs:=by
       rw [←Array.foldl_toList,Array.toList_zipIdx]
      have hcs:=ku hv hn
      have:=ih (qs:=r') (cs:=cs') (r:=r) (ys:=ys) (xs:=(c.cells.toList.zipIdx 0).foldl (fun a (p:Value×Nat)=>a.setIfInBounds (q.1+p.2) p.1) xs) hr' hf
       (aX.mk (by
        have:=(kY _ _ hput).2
        have hl2:cs'.length=cs.length:=by rw [this];simp;omega
        simp only [Array.length_toList,f1];omega) (fun k u hk=>by
        rw [yC hput] at hk
        simp only [Array.getElem?_toList]
        rw [f2 k]
        split at hk
        ·rw [if_neg (by omega)]
         obtain⟨x,x1,x2⟩:=hx.get hk
         exact⟨x,by simpa using x1,x2⟩
        ·split at hk
         ·rw [if_pos (by simp;omega)]
          exact hvc.get hk
         ·rw [if_neg (by simp;omega)]
          obtain⟨x,x1,x2⟩:=hx.get hk
          exact⟨x,by simpa using x1,x2⟩))
       (fun y hy=>by
        obtain⟨k,hk⟩:=List.mem_iff_getElem?.1 hy
        simp only [Array.getElem?_toList] at hk
        rw [f2 k] at hk
        split at hk
        ·exact hcs y (List.mem_of_getElem? hk)
        ·exact hs y (List.mem_of_getElem? (by simpa using hk)))
       h1 hrest
      obtain⟨xs',g1,g2,g3⟩:=this
      refine⟨xs',?_,g2,g3⟩
      simp only [Instr.fill,hq]
      rw [if_neg (by simp;omega)]
      rw [hfoldA]
      exact g1
     ·cases hf
    ·cases hf
   ·cases hp
def oU(z:List V)(qs:List (Nat×Nat×V))(h:Hp):R V:=match wZ z qs with
 |some cs=>.ok (.agg (V.ofList cs)) h
 |none=>.bad
def bK(el:TypeId)(z:List V)(len:Nat)(qs:List (Nat×Nat×V))(h:Hp):R V:=match wZ z qs with
 |some cs=>.ok (.slice h.next 0 len (.kn len)) (h.new (.cells (.rw el true) cs))
 |none=>.bad
theorem N9{t:TypeId}{d:TypeDesc}{it:TypeInfo}{z:Value}{place:Nat→Option (Nat×Nat)}(hd:P.underlying t=some d)(hit:P.info? t=some it)(hz:it.zero=some z)
  (hpl:(∃n e ie,d=.array n e∧P.info? e=some ie∧place=fun i=>some (i*ie.size,ie.size))∨
   (∃fs places,d=.struct fs∧fs.toList.mapM (fun f=>(P.info? f.type).map fun i=>(f.offset,i.size))=some places∧place=fun i=>places.toArray[i]?))
  {zs:List V} (hzs:aX M zs z.cells.toList) (hsc:∀y∈z.cells.toList,scalar y=true) {ps:List (Nat×V)} {qs:List (Nat×Nat×V)} {ys:Array (Nat×Value)}
  (hp:placed place ps=some qs) (h1:ps.map (·.1)=ys.toList.map (·.1)) (h2:aX M (ps.map (·.2)) (ys.toList.map (·.2))) (hr:Rel G M h w) (e:oU zs qs h=.ok r h'):
  Good P G M h w (Instr.build t ys) r h':=by
 unfold oU at e
 split at e
 ·rename_i cs hf
  cases e
  obtain⟨xs',g1,g2,g3⟩:=Eh hp hf hzs hsc h1 h2
  refine .same hr (c:=.agg xs') (run_build w t ys xs' ?_) (uS (xs:=xs'.toList) g2 g3)
  unfold Program.built
  rcases hpl with⟨n,e,ie,rfl,hie,rfl⟩|⟨fs,places,rfl,hfs,rfl⟩
  ·simp only [hit,hd,hz,hie]
   exact g1
  ·simp only [hit,hd,hz,hfs]
   exact g1
 ·cases e
theorem Hg{t el:TypeId}{ti:TypeInfo}{z:Value}(hd:P.underlying t=some (.slice el))(E:ElemOk P el ti z){len:Nat}(hpos:0<len)(hsmall:len*ti.size≤16777216)
  {zs:List V} (hzs:aX M zs ((Array.range (len*ti.size)).map (z.cells[· % z.cells.size]!)).toList) {ps:List (Nat×V)} {qs:List (Nat×Nat×V)} {ys:Array (Nat×Value)}
  (hp:placed (fun i=>some (i*ti.size,ti.size)) ps=some qs) (h1:ps.map (·.1)=ys.toList.map (·.1)) (h2:aX M (ps.map (·.2)) (ys.toList.map (·.2))) (hr:Rel G M h w) (e:bK el zs len qs h=.ok r h'):
  Good P G M h w (Instr.buildSlice t len ys) r h':=by
 unfold bK at e
 split at e
 ·rename_i cs hf
  cases e
  have hsc:∀y∈((Array.range (len*ti.size)).map (z.cells[· % z.cells.size]!)).toList,scalar y=true:=by
   intro y hy
   simp only [Array.toList_map,List.mem_map] at hy
   obtain⟨i,_,rfl⟩:=hy
   have hlt:i % z.cells.size<z.cells.size:=Nat.mod_lt _ (by rw [E.cells];exact E.size)
   rw [getElem!_pos z.cells _ hlt]
   exact E.plain _ (by simp)
  obtain⟨xs',g1,g2,g3⟩:=Eh hp hf hzs hsc h1 h2
  have hl:=g2.length
  have:=hr.row cs xs' el (0,0) (w':=w.alloc (.cells xs' el)) (by rw [show cs.length=xs'.toList.length from hl.symm,List.take_length];exact g2) g3 (by simp) true (fun _=>by rw [←hl];simp) rfl rfl rfl rfl
  have hnz:¬len*ti.size=0:=by have:=Nat.mul_pos hpos E.size;omega
  exact⟨_,_,_,run_buildSlice w t el len ys xs' ti z hd E.info E.zero (by omega) hnz g1,fB (o:=0) (k:=.kn len) (m:=len) (M.bZ _ _) ⟨rfl,Nat.le_refl _⟩,this.1,this.2⟩
 ·cases e
theorem as1{t:TypeId}{it:TypeInfo}{z:Value}(hit:P.info? t=some it)(hz:it.zero=some z){zs:List V}(hzs:aX M zs z.cells.toList)(hsc:∀y∈z.cells.toList,scalar y=true)
  (hr:Rel G M h w) (e:yE t zs h=.ok r h'):Good P G M h w (Instr.alloc t true (.tuple #[])) r h':=by
 cases e
 have hl:=hzs.length
 have:=hr.row zs z.cells t (0,0) (w':=w.alloc (.cells z.cells t)) (by rw [show zs.length=z.cells.toList.length from hl.symm,List.take_length];exact hzs) hsc (by simp) true (fun _=>by rw [←hl];simp) rfl rfl rfl rfl
 refine⟨.pointer (some ⟨w.heap.size,0,none⟩),_,_,?_,jO (M.bZ _ _) 0,this.1,this.2⟩
 simp [Instr.alloc,zeroValue,typeInfo,hit,hz,newVar,newRow]
def times(n:Nat)(z:List V):List V:=Nat.rec (motive:=fun _=>List V) [] (fun _ ih=>z++ih) n
def Ac(el:TypeId)(bt:Nat)(z:List V)(l c:V)(h:Hp):R V:=iU l fun l=>iU c fun c=>
 match Nat.ble l c,Nat.ble (Nat.mul c bt) 140737488355328 with
 |true,true=>.ok (.slice h.next 0 l (.kn c)) (h.new (.cells (.rw el true) (times c z)))
 |_,_=>.bad
theorem nP(z:Array Value):∀n:Nat,0<z.size→((Array.range (n*z.size)).map (z[· % z.size]!)).toList=(List.replicate n z.toList).flatten:=by
 intro n hz
 apply List.ext_getElem?
 intro i
 induction n generalizing i with
 |zero=>simp
 |succ n ih=>
  rw [List.replicate_succ,List.flatten_cons,List.getElem?_append]
  by_cases hi:i<z.size
  ·rw [if_pos (by simpa using hi)]
   have h1:i<(n+1)*z.size:=by rw [Nat.add_mul];omega
   simp [h1,Nat.mod_eq_of_lt hi,hi]
  ·rw [if_neg (by simpa using hi)]
   rw [←ih]
   by_cases h1:i<(n+1)*z.size
   ·have h2:i - z.size<n*z.size:=by rw [Nat.add_mul] at h1;omega
    have h3:(i - z.size) % z.size=i % z.size:=by
     conv=>rhs;rw [show i=(i - z.size)+z.size from by omega]
     rw [Nat.add_mod_right]
    simp [h1,h2,h3]
   ·have h2:¬i - z.size<n*z.size:=by rw [Nat.add_mul] at h1;omega
    simp [h1,h2]
theorem uM{zs:List V}{xs:List Value}(hz:aX M zs xs)(n:Nat):aX M (times n zs) (List.replicate n xs).flatten:=by
 induction n with
 |zero=>rfl
 |succ n ih=>
  rw [List.replicate_succ,List.flatten_cons]
  exact aX.append hz ih
theorem JV{t el:TypeId}{ti:TypeInfo}{z:Value}(hd:P.underlying t=some (.slice el))(E:ElemOk P el ti z){zs:List V}(hzs:aX M zs z.cells.toList)
  {l c:V} {a b:Value} (hr:Rel G M h w) (hl:Rp M l a) (hc:Rp M c b) (e:Ac el ti.bytes zs l c h=.ok r h'):Good P G M h w (Instr.makeSlice t a b) r h':=by
 obtain⟨k1,n1,rfl,e1⟩:=kz e
 clear e
 obtain⟨k2,n2,rfl,e2⟩:=kz e1
 clear e1
 cases hl.int
 cases hc.int
 split at e2
 ·rename_i c1 c2
  cases e2
  have c1':n1≤n2:=Nat.le_of_ble_eq_true c1
  have c2':n2*ti.bytes≤140737488355328:=Nat.le_of_ble_eq_true c2
  have hle:n2≤n2*ti.bytes:=Nat.le_mul_of_pos_right _ E.bytes
  have hcast:(ti.bytes:Int)*(n2:Int)≤281474976710656:=by
   have:((ti.bytes*n2:Nat):Int)≤281474976710656:=by rw [Nat.mul_comm];omega
   rwa [Int.natCast_mul] at this
  have hrun:=run_make (P:=P) w t el ti z hd E.info E.zero k1 k2 (n1:Int) (n2:Int) (by omega) (by omega) hcast (by omega)
  simp only [Int.toNat_natCast] at hrun
  have hcs:(madeCells z.cells (n2*ti.size)).toList=(List.replicate n2 z.cells.toList).flatten:=by
   unfold madeCells
   rw [←E.cells]
   exact nP z.cells n2 (by rw [E.cells];exact E.size)
  have hrep:=uM hzs n2
  have hlen:=hrep.length
  have:=hr.row (times n2 zs) (madeCells z.cells (n2*ti.size)) el (0,0) (w':=w.alloc (.cells (madeCells z.cells (n2*ti.size)) el))
   (by rw [hcs,←hlen,List.take_length];exact hrep)
   (by
    intro y hy
    rw [hcs] at hy
    obtain⟨l,hl,hyl⟩:=List.mem_flatten.1 hy
    rw [(List.mem_replicate.1 hl).2] at hyl
    exact E.plain y hyl) (by simp) true (fun _=>by rw [←hlen,←hcs];simp) rfl rfl rfl rfl
  exact⟨_,_,_,hrun,fB (o:=0) (n:=n1) (k:=.kn n2) (m:=n2) (M.bZ _ _) ⟨rfl,c1'⟩,this.1,this.2⟩
 ·cases e2
def vg(x:V)(h:Hp):R V:=match x with
 | .str s=>(match Nat.blt s.length 4611686018427387904 with|true=>.ok (.slice h.next 0 s.length (.un 1)) (h.new (.bytes (u8s s)))|false=>.bad)
 |_=>.bad
def jd:List V→Option (List Nat)
 | []=>some []
 |v::l=>(match v with
  | .int k n=>(match Nat.beq (kix k) 4,n with
   |true,.ofNat b=>(match Nat.blt b 256,jd l with|true,some r=>some (b::r)|_,_=>none)
   |_,_=>none)
  |_=>none)
def dR(x:V)(h:Hp):R V:=match x with
 | .af=>.ok (.str []) h
 | .emp=>.ok (.str []) h
 | .slice i o n _=>dL h i fun _ cs=>(match fP n (eY o cs) with
  |some l=>(match jd l with|some s=>.ok (.str s) h|none=>.bad)
  |none=>.bad)
 |_=>.bad
theorem TJ{s d el:TypeId}(hs:P.underlying s=some .string)(hd:P.underlying d=some (.slice el))(he:P.underlying el=some (.int .u8)){x:V}{a:Value}(hr:Rel G M h w)(hx:Rp M x a)(e:vg x h=.ok r h'):
  Good P G M h w (convert s d a) r h':=by
 unfold vg at e
 split at e
 ·rename_i l
  obtain⟨hl,rfl⟩:=hx.str
  split at e
  ·rename_i hbl
   have hbl':l.length<4611686018427387904:=by simpa [Nat.blt_eq] using hbl
   cases e
   have hrun:=run_bytes_of_string (P:=P) w s d el (bts l) hs hd he
   have hge:=grownCap_ge w (bts l).size 0 el
   have hgl:grownCap w (bts l).size 0 el≤9223372036854775807:=grownCap_le_maxLen _ _ _ _ (by rw [gW];show _≤9223372036854775807;omega)
   generalize hC:grownCap w (bts l).size 0 el=C at hrun hge hgl
   have hbs:(bytesRow (bts l) C).toList=(l.map fun b=>Value.int .u8 (.ofNat b))++List.replicate (C - l.length) (.int .u8 0):=by
    simp only [bytesRow,Array.toList_append,Array.toList_map,gW,Array.toList_replicate]
    congr 1
    simp only [bts,List.map_map]
    apply List.map_congr_left
    intro b hb
    simp [oJ (hl b hb)]
   have hsz:(bytesRow (bts l) C).size=C:=by
    rw [←Array.length_toList,hbs];rw [gW] at hge;simp;omega
   have hrep:aX M (u8s l) (l.map fun b=>Value.int .u8 (.ofNat b)):=by
    refine aX.mk (by simp [u8s]) (fun i v hi=>?_)
    simp only [u8s,List.getElem?_map] at hi⊢
    cases hsi:l[i]? with
    |none=>rw [hsi] at hi;cases hi
    |some b=>rw [hsi] at hi;cases hi;exact⟨_,rfl,dK M _ _⟩
   have:=hr.new (.bytes (u8s l)) (.cells (bytesRow (bts l) C) el ((bytesRow (bts l) C).size,(bytesRow (bts l) C).size+1)) (bytesRow (bts l) C).size
    (w':=w.drew.alloc (.cells (bytesRow (bts l) C) el ((bytesRow (bts l) C).size,(bytesRow (bts l) C).size+1))) rfl rfl rfl rfl
    (fun N hle=>⟨_,_,_,by simp only [World.alloc];exact Array.getElem?_push_size,rfl,fun k v hk=>by
     obtain⟨x,hx',hrx⟩:=hrep.get hk
     have hbx:(bytesRow (bts l) C)[0+k]?=some x:=by
      rw [Nat.zero_add,←Array.getElem?_toList,hbs,List.getElem?_append_left (by rw [List.getElem?_eq_some_iff] at hx';exact hx'.1)];exact hx'
     refine⟨x,hbx,hrx.mono hle,?_⟩
     obtain⟨b,_,rfl⟩:=List.mem_map.1 (List.mem_of_getElem? hx');rfl,fun k _ hk h=>by
      have h1:(bytesRow (bts l) C).size≤k:=h.1
      exact absurd hk (by show ¬k<(bytesRow (bts l) C).size;omega)⟩)
   rw [gW] at hrun hge
   exact⟨_,_,_,hrun,fB (o:=0) (n:=l.length) (k:=.un 1) (m:=C) (M.bZ h.next ⟨w.heap.size,0,(bytesRow (bts l) C).size⟩) ⟨⟨hge,hgl⟩,by show 0+0+C*1=(bytesRow (bts l) C).size;rw [hsz];omega⟩,this.1,this.2.1⟩
  ·cases e
 ·cases e
theorem FP:∀{l:List V} {s:List Nat} {xs:List Value},jd l=some s→aX M l xs→(∀b∈s,b<256)∧xs=(s.map fun(b:Nat)=>(b:Int)).map (Value.int .u8):=by
 intro l
 induction l with
 |nil=>intro s xs e hx;cases e;rw [show xs= [] from hx];simp
 |cons v l ih=>
  intro s xs e hx
  obtain⟨x,xt,hv,ht,rfl⟩:=hx
  simp only [jd] at e
  split at e
  ·rename_i k n
   split at e
   ·rename_i b hk
    split at e
    ·rename_i r hb hr'
     cases e
     obtain⟨g1,g2⟩:=ih hr' ht
     have hk':k=.u8:=mD (a:=k) (b:=.u8) hk
     subst hk'
     cases hv.int
     have hb':b<256:=by simpa [Nat.blt_eq] using hb
     refine⟨fun c hc=>?_,by rw [g2];rfl⟩
     rcases List.mem_cons.1 hc with rfl|hc
     ·exact hb'
     ·exact g1 c hc
    ·cases e
   ·cases e
  ·cases e
theorem fold_push:∀(s:List Nat) (acc:ByteArray),(s.map fun(b:Nat)=>(b:Int)).foldl (fun r n=>r.push (UInt8.ofNat n.toNat)) acc=acc++bts s:=by
 intro s
 induction s with
 |nil=>intro acc;apply ByteArray.ext;simp [bts]
 |cons b s ih=>
  intro acc
  simp only [List.map_cons,List.foldl_cons,Int.toNat_natCast]
  rw [ih]
  apply ByteArray.ext
  simp [bts]
theorem Ud{s d el:TypeId}(hs:P.underlying s=some (.slice el))(hd:P.underlying d=some .string)(he:P.underlying el=some (.int .u8)){x:V}{a:Value}(hr:Rel G M h w)(hx:Rp M x a)(e:dR x h=.ok r h'):
  Good P G M h w (convert s d a) r h':=by
 unfold dR at e
 have he0:ByteArray.empty=bts []:=rfl
 split at e
 ·cases e
  cases hx.af
  refine .same hr (c:=.string (bts [])) ?_ (oM (by simp))
  rw [run_convert_bytes_string w s d el _ _ _ hs he hd]
  rfl
 ·cases e
  obtain⟨ad,k,rfl⟩:=hx.emp
  refine .same hr (c:=.string (bts [])) ?_ (oM (by simp))
  rw [run_convert_bytes_string w s d el _ _ _ hs he hd]
  have:=run_bytesToString (P:=P) w ad 0 k [] (by rfl)
  exact this
 ·rename_i i o n cap
  obtain⟨L,m,hL,_,rfl⟩:=hx.slice
  obtain⟨wr,cs,hi,e1⟩:=dG e
  split at e1
  ·rename_i l hl
   split at e1
   ·rename_i t ht
    cases e1
    obtain⟨xs,hxl,hlen,hsx,hc⟩:=hr.cells hi hL hl
    obtain⟨g1,g2⟩:=FP ht hxl
    refine .same hr (c:=.string (bts t)) ?_ (oM g1)
    rw [run_convert_bytes_string w s d el _ _ _ hs he hd]
    have hload:=run_loadCells_list (P:=P) w (L.at o) xs hc
    rw [hlen,g2] at hload
    have:=run_bytesToString (P:=P) w (L.at o) n m _ hload
    rw [this,fold_push]
    congr 2
   ·cases e1
  ·cases e1
 ·cases e
def Jt(x:V)(h:Hp):R V:=match x with
 | .slice i o n c=>(match h.get i with
  |some ob=>(match ob with
   | .cells wr cs=>(match wr with| .rw _ _=>.ok (.slice i o n c) (h.put i (some (.cells .ro cs)))| .ro=>.bad)
   |_=>.bad)
  |none=>.bad)
 |_=>.bad
theorem am4{s d el el':TypeId}(hsd:s=d)(hs:P.underlying s=some (.slice el))(hd:P.underlying d=some (.slice el'))(he:P.underlying el'=some (.int .u8)){x:V}{a:Value}(hr:Rel G M h w)(hx:Rp M x a)(e:Jt x h=.ok r h'):
  Good P G M h w (convert s d a) r h':=by
 unfold Jt at e
 split at e
 ·rename_i i o n c
  obtain⟨L,k,hL,hc,rfl⟩:=hx.slice
  split at e
  ·rename_i ob hob
   split at e
   ·rename_i wr cs
    split at e
    ·cases e
     obtain⟨L',hL',cc,el1,fr,hb,hsz,hcell,hfr⟩:=hr.ob i _ hob
     rw [hL] at hL';cases hL'
     have hbl:L.blk<w.heap.size:=(Array.getElem?_eq_some_iff.1 hb).1
     have hrun:(markStringish (L.at o)).run P w=.ok () (w.freeze ⟨L.blk,cc.size,none⟩ 1):=by
      have hshape:w.shape? L.blk=some (el1,cc.size):=by simp [World.shape?,hb]
      simp [markStringish,Loc.at,hshape]
     have ht:=hr.turn hob hL rfl (w':=w.freeze ⟨L.blk,cc.size,none⟩ 1) (o':=.cells .ro cs) (by simp [World.freeze]) (fun q hq=>by
      simp only [World.freeze]
      rw [if_neg (by omega),Array.getElem?_modify,if_neg (Ne.symm hq)]) rfl rfl rfl (by
      refine⟨cc,el1,(if fr.1==fr.2 then(cc.size,cc.size+1) else(min fr.1 cc.size,max fr.2 (cc.size+1))),?_,hsz,hcell,trivial⟩
      simp only [World.freeze]
      rw [if_neg (by omega),Array.getElem?_modify,if_pos rfl,hb]
      rfl)
     refine⟨_,_,M,?_,hx,ht.1,ht.2⟩
     subst hsd
     have hel:el=el':=by rw [hs] at hd;cases hd;rfl
     subst hel
     simp only [convert,Sem.run_bind,run_underlying hs,run_underlying he,Result.andThen_ok,beq_self_eq_true]
     rw [hrun]
     rfl
    ·cases e
   ·cases e
  ·cases e
 ·cases e
end
end Go.Vm
namespace Go.Vm
noncomputable section
variable{P:Program}{G:Nat}{M:Mp}{h h':Hp}{w:World}{r:V}
def anb(l:List Nat):Nat:=List.rec (motive:=fun _=>Nat) 0 (fun _ _ ih=>Nat.succ ih) l
theorem X6(l:List Nat):anb l=l.length:=by induction l with|nil=>rfl|cons a t ih=>exact congrArg (· +1) ih
def aFu(l:List (V×V)):Nat:=List.rec (motive:=fun _=>Nat) 0 (fun _ _ ih=>Nat.succ ih) l
theorem ax7(l:List (V×V)):aFu l=l.length:=by induction l with|nil=>rfl|cons a t ih=>exact congrArg (· +1) ih
def abD(x:V)(h:Hp):R V:=match x with
 | .str s=>.ok (.int .i64 (.ofNat (anb s))) h
 | .slice _ _ n _=>.ok (.int .i64 (.ofNat n)) h
 | .af=>.ok (.int .i64 (.ofNat 0)) h
 | .emp=>.ok (.int .i64 (.ofNat 0)) h
 | .gG=>.ok (.int .i64 (.ofNat 0)) h
 | .map i=>(match h.get i with|some (.map es)=>.ok (.int .i64 (.ofNat (aFu es))) h|_=>.bad)
 |_=>.bad
def jT(d:TypeDesc):Nat:=match d with
 | .string=>1| .slice _=>2| .map _ _=>3|_=>0
def lC(k:Nat)(x:V):Bool:=match x with
 | .str _=>Nat.beq k 1
 | .slice _ _ _ _| .af| .emp=>Nat.beq k 2
 | .gG| .map _=>Nat.beq k 3
 |_=>false
def fH(k:Nat)(x:V)(h:Hp):R V:=match lC k x with|true=>abD x h|false=>.bad
theorem aFt{t ty:TypeId}{d:TypeDesc}(hd:P.underlying t=some d){x:V}{a:Value}(hr:Rel G M h w)(hx:Rp M x a)(e:fH (jT d) x h=.ok r h'):
  Good P G M h w (Builtin.len_ #[t] ty #[a]) r h':=by
 unfold fH at e
 split at e
 case h_2=>cases e
 rename_i hf
 cases x with
 |str s=>
  cases e
  cases hx.str.2
  have:d=.string:=by cases d<;>simp_all [lC,jT]
  subst this
  rw [X6]
  refine .same hr ?_ (dK M _ _)
  simp [Builtin.len_,run_underlying hd,gW,goInt]
 |slice i o n c=>
  cases e
  obtain⟨L,m,_,_,rfl⟩:=hx.slice
  have:∃el,d=.slice el:=by cases d<;>simp_all [lC,jT]
  obtain⟨el,rfl⟩:=this
  refine .same hr ?_ (dK M _ _)
  simp [Builtin.len_,run_underlying hd,goInt]
 |af=>
  cases e
  cases hx.af
  have:∃el,d=.slice el:=by cases d<;>simp_all [lC,jT]
  obtain⟨el,rfl⟩:=this
  refine .same hr ?_ (dK M _ _)
  simp [Builtin.len_,run_underlying hd,goInt]
 |emp=>
  cases e
  obtain⟨_,_,rfl⟩:=hx.emp
  have:∃el,d=.slice el:=by cases d<;>simp_all [lC,jT]
  obtain⟨el,rfl⟩:=this
  refine .same hr ?_ (dK M _ _)
  simp [Builtin.len_,run_underlying hd,goInt]
 |gG=>
  cases e
  cases hx.gG
  have:∃k el,d=.map k el:=by cases d<;>simp_all [lC,jT]
  obtain⟨k,el,rfl⟩:=this
  refine .same hr ?_ (dK M _ _)
  simp [Builtin.len_,run_underlying hd,goInt]
 |map i=>
  simp only [abD] at e
  have:∃k el,d=.map k el:=by cases d<;>simp_all [lC,jT]
  obtain⟨k,el,rfl⟩:=this
  split at e
  ·rename_i es hes
   cases e
   obtain⟨L,hL,rfl⟩:=hx.map
   obtain⟨L',hL',en,ck,hb,⟨l,hp,h1⟩,_⟩:=hr.ob i _ hes
   rw [hL] at hL';cases hL'
   have hlen:en.size=es.length:=by
    have e2:=h1.length
    have e3:=hp.length_eq
    simp at e3
    omega
   rw [ax7]
   refine .same hr (c:=.int .i64 (.ofNat es.length)) ?_ (dK M _ _)
   have hg:(getObj L.blk).run P w=.ok (.map en ck) w:=by simp [getObj,Sem.run,hb]
   simp [Builtin.len_,run_underlying hd,goInt,hg,hlen]
  ·cases e
 |_=>cases e
def UR(n:Nat)(h:Hp):R V:=.ok (.int .i64 (.ofNat n)) h
theorem ajx{t ty:TypeId}{n:Nat}{el:TypeId}(hd:P.underlying t=some (.array n el)){a:Value}(hr:Rel G M h w)(e:UR n h=.ok r h'):
  Good P G M h w (Builtin.len_ #[t] ty #[a]) r h':=by
 cases e
 refine .same hr (c:=goInt n) ?_ (dK M _ _)
 simp [Builtin.len_,run_underlying hd]
def abB(x y:V)(h:Hp):R V:=asInt x fun k a=>asInt y fun _ b=>match jv a b with|true=>.ok (.int k a) h|false=>.ok (.int k b) h
def abC(x y:V)(h:Hp):R V:=asInt x fun k a=>asInt y fun _ b=>match jv b a with|true=>.ok (.int k a) h|false=>.ok (.int k b) h
theorem aEG{at_:Array TypeId}{ty:TypeId}{x y:V}{a b:Value}(hr:Rel G M h w)(hx:Rp M x a)(hy:Rp M y b)(e:abB x y h=.ok r h'):Good P G M h w (Builtin.min_ at_ ty #[a,b]) r h':=by
 obtain⟨k,n,rfl,e1⟩:=kW e
 obtain⟨k',m,rfl,e2⟩:=kW e1
 cases hx.int;cases hy.int
 rw [oZ] at e2
 by_cases hle:n≤m
 ·rw [decide_eq_true hle] at e2;cases e2
  refine .same hr (c:=.int k n) ?_ (dK M _ _)
  have:¬m<n:=by omega
  simp [Builtin.min_,Builtin.min2,this]
 ·rw [decide_eq_false hle] at e2;cases e2
  refine .same hr (c:=.int k m) ?_ (dK M _ _)
  have:m<n:=by omega
  simp [Builtin.min_,Builtin.min2,this]
theorem aEH{at_:Array TypeId}{ty:TypeId}{x y:V}{a b:Value}(hr:Rel G M h w)(hx:Rp M x a)(hy:Rp M y b)(e:abC x y h=.ok r h'):Good P G M h w (Builtin.max_ at_ ty #[a,b]) r h':=by
 obtain⟨k,n,rfl,e1⟩:=kW e
 obtain⟨k',m,rfl,e2⟩:=kW e1
 cases hx.int;cases hy.int
 rw [oZ] at e2
 by_cases hle:m≤n
 ·rw [decide_eq_true hle] at e2;cases e2
  refine .same hr (c:=.int k n) ?_ (dK M _ _)
  have:¬n<m:=by omega
  simp [Builtin.max_,Builtin.max2,this]
 ·rw [decide_eq_false hle] at e2;cases e2
  refine .same hr (c:=.int k m) ?_ (dK M _ _)
  have:n<m:=by omega
  simp [Builtin.max_,Builtin.max2,this]
end
end Go.Vm
namespace Go.Vm
noncomputable section
variable{P:Program}{G:Nat}{M:Mp}{h h':Hp}{w:World}{r:V}
def iJ(d:TypeDesc)(x:V):Bool:=match d,x with
 | .int _,.int _ _=>true
 | .string,.str _=>true
 | .bool,.bool _=>true
 |_,_=>false
def kF(x:V):List (V×V)→Option (Option V)
 | []=>some none
 |(k,v)::l=>(match dZ x k with|some b=>(match b with|true=>some (some v)|false=>kF x l)|none=>none)
def DW(x y:V):List (V×V)→Option (List (V×V))
 | []=>some [(x,y)]
 |(k,v)::l=>(match dZ x k with
  |some b=>(match b with|true=>some ((x,y)::l)|false=>(match DW x y l with|some r=>some ((k,v)::r)|none=>none))
  |none=>none)
def wU(ok:Bool)(v:V)(b:Bool)(h:Hp):R V:=match ok with|true=>.ok (.tuple (.cons v (.cons (.bool b) .nil))) h|false=>.ok v h
def abO(ok:Bool)(z x:V)(es:List (V×V))(h:Hp):R V:=match kF x es with
 |some o=>(match o with|some v=>wU ok v true h|none=>wU ok z false h)
 |none=>.bad
def qL(ok:Bool)(z m x:V)(h:Hp):R V:=match m with
 | .gG=>wU ok z false h
 | .map i=>(match h.get i with|some (.map es)=>abO ok z x es h|_=>.bad)
 |_=>.bad
def nX(m x y:V)(h:Hp):R V:=match m with
 | .map i=>(match h.get i with
  |some (.map es)=>(match DW x y es with|some es'=>.ok V.undef (h.put i (some (.map es')))|none=>.bad)
  |_=>.bad)
 |_=>.bad
def Ju(h:Hp):R V:=.ok (.map h.next) (h.new (.map []))
theorem uG{d:TypeDesc}{kt:TypeId}(hk:P.underlying kt=some d){x:V}(hf:iJ d x=true)(c:Value)(e:Bool):(Instr.checkKey e 10000 kt c).run P w=.ok () w:=by
 rw [show(10000:Nat)=9999+1 from rfl]
 unfold Instr.checkKey
 rw [Sem.run_bind,run_underlying hk]
 cases d<;>cases x<;>first|(cases hf;done)|rfl
theorem sV{d:TypeDesc}{x y:V}{c e:Value}{b:Bool}(hf:iJ d x=true)(hx:Rp M x c)(hy:Rp M y e)(hb:dZ x y=some b):Instr.sameNow d c e=some b:=by
 cases x with
 |int k a=>
  cases y<;>try (cases hb;done)
  rename_i k' a'
  simp only [dZ] at hb
  split at hb
  ·rename_i hk
   cases hb
   have hk':=mD hk
   subst hk'
   cases hx.int;cases hy.int
   cases d<;>first|(cases hf;done)|(simp [Instr.sameNow,jl])
  ·cases hb
 |str s=>
  cases y<;>try (cases hb;done)
  rename_i t
  cases hb
  obtain⟨h1,rfl⟩:=hx.str
  obtain⟨h2,rfl⟩:=hy.str
  cases d<;>first|(cases hf;done)|skip
  simp only [Instr.sameNow]
  rw [rW h1 h2]
  congr 1
  show((bts s).data==(bts t).data)=_
  simp only [bts]
  rw [Bool.eq_iff_iff]
  simp
 |bool a=>
  cases y<;>try (cases hb;done)
  rename_i a'
  cases hx.bool;cases hy.bool
  cases d<;>first|(cases hf;done)|skip
  simp only [Instr.sameNow]
  rw [←hb]
  cases a<;>cases a'<;>rfl
 |_=>cases hb
theorem abS{d:TypeDesc}{x y:V}{c e:Value}(hf:iJ d x=true)(hx:Rp M x c)(hy:Rp M y e)(hb:dZ x y=some true):e=c∧(Instr.keyThatStays e c).run P w=.ok c w:=by
 have key:e=c∧Instr.sameBits 10000 c c=true:=by
  rw [show(10000:Nat)=9999+1 from rfl]
  cases x with
  |int k a=>
   cases y<;>try (cases hb;done)
   rename_i k' a'
   simp only [dZ] at hb
   split at hb
   ·rename_i hk
    have hk':=mD hk
    subst hk'
    have hb':iK a a'=true:=by simpa using hb
    rw [jl] at hb'
    have hb'':a=a':=by simpa using hb'
    subst hb''
    cases hx.int;cases hy.int
    exact⟨rfl,by simp [Instr.sameBits]⟩
   ·cases hb
  |str s=>
   cases y<;>try (cases hb;done)
   rename_i t
   obtain⟨h1,rfl⟩:=hx.str
   obtain⟨h2,rfl⟩:=hy.str
   have hb':gQ s t=true:=by simpa [dZ] using hb
   rw [rW h1 h2] at hb'
   have e1:s.map UInt8.ofNat=t.map UInt8.ofNat:=by simpa using hb'
   have e2:bts t=bts s:=by unfold bts;rw [e1]
   refine⟨by rw [e2],?_⟩
   simp only [Instr.sameBits]
   show((bts s).data==(bts s).data)=true
   simp
  |bool a=>
   cases y<;>try (cases hb;done)
   rename_i a'
   cases hx.bool;cases hy.bool
   cases a<;>cases a'<;>first|(cases hb;done)|exact⟨rfl,by simp [Instr.sameBits]⟩
  |_=>cases hb
 obtain⟨rfl,k⟩:=key
 refine⟨rfl,?_⟩
 unfold Instr.keyThatStays
 rw [if_pos k]
 rfl
theorem zG:∀{s t:List Nat},gQ s t=true→s=t
 | [],[],_=>rfl
 | [],_::_,h=>by cases h
 |_::_,[],h=>by cases h
 |a::x,b::y,h=>by
  simp only [gQ] at h
  split at h
  ·rename_i hab;rw [Nat.eq_of_beq_eq_true hab,zG h]
  ·cases h
theorem FO(a b:Nat):Nat.beq a b=Nat.beq b a:=by
 rw [Bool.eq_iff_iff,Nat.beq_eq,Nat.beq_eq];exact eq_comm
theorem zH:∀(s t:List Nat),gQ s t=gQ t s
 | [],[]=>rfl
 | [],_::_=>rfl
 |_::_,[]=>rfl
 |a::x,b::y=>by simp only [gQ];rw [FO a b,zH x y]
theorem abV(a b:Int):iK a b=iK b a:=by
 rw [jl,jl,Bool.eq_iff_iff];simp only [beq_iff_eq];exact eq_comm
theorem Ap{x y:V}(h:dZ x y=some true):x=y:=by
 cases x with
 |int k a=>
  cases y<;>try (cases h;done)
  rename_i k' b
  simp only [dZ] at h
  split at h
  ·rename_i hk
   have h':iK a b=true:=by simpa using h
   rw [jl] at h'
   rw [mD hk,show a=b by simpa using h']
  ·cases h
 |str s=>
  cases y<;>try (cases h;done)
  rename_i t
  rw [zG (s:=s) (t:=t) (by simpa [dZ] using h)]
 |bool a=>
  cases y<;>try (cases h;done)
  rename_i b
  cases a<;>cases b<;>first|rfl|(cases h;done)
 |_=>cases h
theorem nZ{x y:V}{b:Bool}(h:dZ x y=some b):dZ y x=some b:=by
 cases x with
 |int k a=>
  cases y<;>try (cases h;done)
  rename_i k' a'
  simp only [dZ] at h⊢
  rw [FO]
  split at h
  ·rename_i hk;(try rw [hk]);rw [abV];exact h
  ·cases h
 |str s=>
  cases y<;>try (cases h;done)
  rename_i t
  simp only [dZ] at h⊢
  rw [zH];exact h
 |bool a=>
  cases y<;>try (cases h;done)
  rename_i a'
  simp only [dZ] at h⊢
  rw [←h]
  cases a<;>cases a'<;>rfl
 |_=>cases h
theorem eu.get:∀{ps:List (V×V)} {l:List MapEntry} (_:eu M ps l) {n:Nat} {e:MapEntry},l[n]?=some e→∃k v,ps[n]?=some (k,v)∧Rp M k e.key∧Rp M v e.val
 | [],_,h,n,e,he=>by rw [show _= [] from h] at he;simp at he
 |(k,v)::ps,_,⟨e0,es,h,g,x⟩,0,e,he=>by subst x;simp at he;subst he;exact⟨k,v,rfl,h.1,h.2⟩
 |p::ps,_,⟨e0,es,h,g,x⟩,n+1,e,he=>by subst x;simp at he⊢;exact eu.get g he
theorem eu.at:∀{ps:List (V×V)} {l:List MapEntry} (_:eu M ps l) {n:Nat} {k v:V},ps[n]?=some (k,v)→∃e,l[n]?=some e∧Rp M k e.key∧Rp M v e.val
 | [],_,h,n,k,v,he=>by simp at he
 |p::ps,_,⟨e0,es,h,g,x⟩,0,k,v,he=>by subst x;simp at he;subst he;exact⟨e0,rfl,h.1,h.2⟩
 |p::ps,_,⟨e0,es,h,g,x⟩,n+1,k,v,he=>by subst x;simp at he⊢;exact eu.at g he
theorem eu.snoc{x y:V}{e:MapEntry}(h1:Rp M x e.key)(h2:Rp M y e.val):∀{ps:List (V×V)} {l:List MapEntry},eu M ps l→eu M (ps++ [(x,y)]) (l++ [e])
 | [],_,h=>by rw [show _= [] from h];exact⟨e,[],⟨h1,h2⟩,rfl,rfl⟩
 |p::ps,_,⟨e0,es,h,g,z⟩=>by subst z;exact⟨e0,_,h,eu.snoc h1 h2 g,rfl⟩
theorem eu.set{x y:V}{e:MapEntry}(h1:Rp M x e.key)(h2:Rp M y e.val):∀{ps:List (V×V)} {l:List MapEntry} (n:Nat),eu M ps l→eu M (ps.set n (x,y)) (l.set n e)
 | [],_,n,h=>by rw [show _= [] from h];rfl
 |p::ps,_,0,⟨e0,es,h,g,z⟩=>by subst z;exact⟨e,es,⟨h1,h2⟩,g,rfl⟩
 |p::ps,_,n+1,⟨e0,es,h,g,z⟩=>by subst z;exact⟨e0,_,h,eu.set h1 h2 n g,rfl⟩
theorem eu.perm{ps qs:List (V×V)}(hp:List.Perm ps qs):∀{l:List MapEntry},eu M ps l→∃k,List.Perm k l∧eu M qs k:=by
 induction hp with
 |nil=>intro l h;exact⟨l,List.Perm.refl _,h⟩
 |cons p _ ih=>
  rintro l ⟨e,es,h,g,rfl⟩
  obtain⟨k,h1,h2⟩:=ih g
  exact⟨e::k,h1.cons e,e,k,h,h2,rfl⟩
 |swap p q ps=>
  rintro l ⟨e,es,h,⟨f,fs,h',g,rfl⟩,rfl⟩
  exact⟨f::e::fs,List.Perm.swap _ _ _,f,_,h',⟨e,_,h,g,rfl⟩,rfl⟩
 |trans _ _ ih1 ih2=>
  intro l h
  obtain⟨k,h1,h2⟩:=ih1 h
  obtain⟨k',h3,h4⟩:=ih2 h2
  exact⟨k',h3.trans h1,h4⟩
theorem dN.perm{es fs:List (V×V)}(hp:List.Perm es fs)(h:dN es):dN fs:=
 (List.Perm.pairwise_iff (fun{a b}=>nZ (x:=a) (y:=b) (b:=false)) (hp.map _)).1 h
theorem dN.sub{es fs:List (V×V)}(hp:List.Sublist es fs)(h:dN fs):dN es:=List.Pairwise.sublist (hp.map _) h
theorem dN.snoc{es:List (V×V)}{x y:V}(h:dN es)(hn:∀(n:Nat) k v,es[n]?=some (k,v)→dZ x k=some false):dN (es++ [(x,y)]):=by
 unfold dN
 rw [List.map_append,List.pairwise_append]
 refine⟨h,by simp,fun a ha b hb=>?_⟩
 simp at hb;subst hb
 obtain⟨⟨k,v⟩,hm,rfl⟩:=List.mem_map.1 ha
 obtain⟨n,hn',he⟩:=List.getElem_of_mem hm
 exact nZ (hn n k v (by rw [List.getElem?_eq_getElem hn',he]))
theorem dN.last{es:List (V×V)}{x y:V}(h:dN (es++ [(x,y)])):∀(n:Nat) k v,es[n]?=some (k,v)→dZ x k=some false:=by
 intro n k v hn
 unfold dN at h
 rw [List.map_append,List.pairwise_append] at h
 exact nZ (h.2.2 k (List.mem_map.2 ⟨(k,v),List.mem_of_getElem? hn,rfl⟩) x (by simp))
theorem dN.others{es:List (V×V)}(h:dN es){n:Nat}{x v:V}(hn:es[n]?=some (x,v)):∀(m:Nat) k u,m≠n→es[m]?=some (k,u)→dZ x k=some false:=by
 intro m k u hne hm
 unfold dN at h
 rw [List.pairwise_iff_getElem] at h
 obtain⟨ln,en⟩:=List.getElem?_eq_some_iff.1 hn
 obtain⟨lm,em⟩:=List.getElem?_eq_some_iff.1 hm
 rcases Nat.lt_or_ge m n with hlt|hge
 ·have:=h m n (by simpa using lm) (by simpa using ln) hlt
  simp only [List.getElem_map,en,em] at this
  exact nZ this
 ·have:=h n m (by simpa using ln) (by simpa using lm) (by omega)
  simpa only [List.getElem_map,en,em] using this
theorem tu{x v:V}:∀{es:List (V×V)},kF x es=some (some v)→∃n:Nat,es[n]?=some (x,v)∧dZ x x=some true∧∀(m:Nat) k u,m<n→es[m]?=some (k,u)→dZ x k=some false
 | [],h=>by cases h
 |(k,u)::es,h=>by
  simp only [kF] at h
  split at h
  ·rename_i b hb
   split at h
   ·cases h
    have:=Ap hb
    subst this
    exact⟨0,rfl,hb,fun m k u hm=>by omega⟩
   ·obtain⟨n,h1,h2,h3⟩:=tu h
    refine⟨n+1,h1,h2,fun m k' u' hm hk=>?_⟩
    cases m with
    |zero=>simp at hk;obtain⟨rfl,rfl⟩:=hk;exact hb
    |succ m=>exact h3 m k' u' (by omega) hk
  ·cases h
theorem tC{x:V}:∀{es:List (V×V)},kF x es=some none→∀(m:Nat) k u,es[m]?=some (k,u)→dZ x k=some false
 | [],_,m,k,u,hm=>by simp at hm
 |(k0,u0)::es,h,m,k,u,hm=>by
  simp only [kF] at h
  split at h
  ·rename_i b hb
   split at h
   ·cases h
   ·cases m with
    |zero=>simp at hm;obtain⟨rfl,rfl⟩:=hm;exact hb
    |succ m=>exact tC h m k u hm
  ·cases h
theorem I7{x y:V}:∀{es:List (V×V)},(∀(m:Nat) k u,es[m]?=some (k,u)→dZ x k=some false)→DW x y es=some (es++ [(x,y)])
 | [],_=>rfl
 |(k,u)::es,h=>by
  simp only [DW,h 0 k u rfl,I7 (es:=es) fun m k u hm=>h (m+1) k u hm]
  rfl
theorem UK{x y:V}:∀{es es':List (V×V)},DW x y es=some es'→(kF x es=some none∧es'=es++ [(x,y)])∨(∃(n:Nat) (v:V),kF x es=some (some v)∧es[n]?=some (x,v)∧es'=es.set n (x,y))
 | [],es',h=>by cases h;exact .inl ⟨rfl,rfl⟩
 |(k,u)::es,es',h=>by
  simp only [DW] at h
  split at h
  ·rename_i b hb
   split at h
   ·cases h
    have:=Ap hb
    subst this
    exact .inr ⟨0,u,by simp only [kF,hb],rfl,rfl⟩
   ·split at h
    ·rename_i r hr
     cases h
     rcases UK hr with⟨h1,h2⟩|⟨n,v,h1,h2,h3⟩
     ·exact .inl ⟨by simp only [kF,hb];exact h1,by rw [h2];rfl⟩
     ·exact .inr ⟨n+1,v,by simp only [kF,hb];exact h1,h2,by rw [h3];rfl⟩
    ·cases h
  ·cases h
theorem tq{d:TypeDesc}{c:Value}:∀{en:List MapEntry} (i:Nat),(∀e∈en,∃b,Instr.sameNow d c e.key=some b)→∃q,Instr.findNow d c en i=some q∧(match q with
  |none=>∀e∈en,Instr.sameNow d c e.key=some false
  |some (j,u)=>∃n e,j=i+n∧en[n]?=some e∧u=e.val∧Instr.sameNow d c e.key=some true)
 | [],i,_=>⟨none,rfl,fun e he=>by cases he⟩
 |e::en,i,h=>by
  obtain⟨b,hb⟩:=h e (by simp)
  cases b with
  |true=>exact⟨some (i,e.val),by unfold Instr.findNow;rw [hb],0,e,rfl,rfl,rfl,hb⟩
  |false=>
   obtain⟨q,h1,h2⟩:=tq (d:=d) (c:=c) (en:=en) (i+1) fun e' he'=>h e' (List.mem_cons_of_mem _ he')
   refine⟨q,by unfold Instr.findNow;rw [hb];exact h1,?_⟩
   cases q with
   |none=>
    intro e' he'
    rcases List.mem_cons.1 he' with rfl|he'
    ·exact hb
    ·exact h2 e' he'
   |some p=>
    obtain⟨j,u⟩:=p
    obtain⟨n,e1,rfl,h3,h4,h5⟩:=h2
    exact⟨n+1,e1,by omega,h3,h4,h5⟩
theorem find_ok{d:TypeDesc}{x:V}{c:Value}{es:List (V×V)}{l en:List MapEntry}{o:Option V}(hf:iJ d x=true)(hx:Rp M x c)(hp:List.Perm l en)(hre:eu M es l)(hd:dN es)(e:kF x es=some o):
  ∃q,Instr.findNow d c en 0=some q∧(match o,q with
   |none,none=>True
   |some v,some (j,u)=>Rp M v u∧∃(n:Nat) (e0:MapEntry),es[n]?=some (x,v)∧l[n]?=some e0∧en[j]?=some e0∧e0.key=c∧∀(P:Program) (w:World),(Instr.keyThatStays c c).run P w=.ok c w
   |_,_=>False):=by
 cases o with
 |none=>
  have hall:∀e0∈en,Instr.sameNow d c e0.key=some false:=fun e0 he0=>by
   obtain⟨n,hn,hne⟩:=List.getElem_of_mem (hp.mem_iff.2 he0)
   obtain⟨k,v,h1,h2,h3⟩:=hre.get (n:=n) (e:=e0) (by rw [List.getElem?_eq_getElem hn,hne])
   exact sV hf hx h2 (tC e n k v h1)
  obtain⟨q,h1,h2⟩:=tq (d:=d) (c:=c) (en:=en) 0 fun e0 he0=>⟨_,hall e0 he0⟩
  refine⟨q,h1,?_⟩
  cases q with
  |none=>trivial
  |some p=>
   obtain⟨j,u⟩:=p
   obtain⟨n,e1,_,h3,_,h5⟩:=h2
   rw [hall e1 (List.mem_of_getElem? h3)] at h5
   cases h5
 |some v=>
  obtain⟨n,h1,h2,_⟩:=tu e
  have hoth:=hd.others h1
  have hall:∀(m:Nat) (e0:MapEntry),l[m]?=some e0→(m=n→Instr.sameNow d c e0.key=some true)∧(m≠n→Instr.sameNow d c e0.key=some false):=fun m e0 hm=>by
   obtain⟨k,v',g1,g2,g3⟩:=hre.get hm
   refine⟨fun hmn=>?_,fun hmn=>sV hf hx g2 (hoth m k v' hmn g1)⟩
   subst hmn
   rw [h1] at g1;cases g1
   exact sV hf hx g2 h2
  have hmem:∀e0∈en,∃m:Nat,l[m]?=some e0:=fun e0 he0=>by
   obtain⟨m,hm,hme⟩:=List.getElem_of_mem (hp.mem_iff.2 he0)
   exact⟨m,by rw [List.getElem?_eq_getElem hm,hme]⟩
  obtain⟨q,h3,h4⟩:=tq (d:=d) (c:=c) (en:=en) 0 fun e0 he0=>by
   obtain⟨m,hm⟩:=hmem e0 he0
   by_cases hmn:m=n
   ·exact⟨_,(hall m e0 hm).1 hmn⟩
   ·exact⟨_,(hall m e0 hm).2 hmn⟩
  obtain⟨e2,k1,k2,k3⟩:=hre.at h1
  refine⟨q,h3,?_⟩
  cases q with
  |none=>
   have:=h4 e2 (hp.mem_iff.1 (List.mem_of_getElem? k1))
   rw [(hall n e2 k1).1 rfl] at this
   cases this
  |some p=>
   obtain⟨j,u⟩:=p
   obtain⟨m,e1,hj,g1,g2,g3⟩:=h4
   obtain⟨m',hm'⟩:=hmem e1 (List.mem_of_getElem? g1)
   have hmn:m'=n:=by
    by_cases hmn:m'=n
    ·exact hmn
    ·rw [(hall m' e1 hm').2 hmn] at g3;cases g3
   subst hmn
   rw [k1] at hm';cases hm'
   have hk:e2.key=c∧∀(P:Program) (w:World),(Instr.keyThatStays c c).run P w=.ok c w:=by
    have hs:∀(P:Program) (w:World),e2.key=c∧(Instr.keyThatStays e2.key c).run P w=.ok c w:=fun P w=>abS hf hx k2 h2
    have h0:=(hs default default).1
    exact⟨h0,fun P w=>by have:=(hs P w).2;rw [h0] at this;exact this⟩
   refine⟨by rw [g2];exact k3,m',e2,h1,k1,?_,hk.1,hk.2⟩
   rw [hj,Nat.zero_add];exact g1
theorem set_perm{α:Type}{l m:List α}{n j:Nat}{a b:α}(hp:List.Perm l m)(hl:l[n]?=some a)(hm:m[j]?=some a):List.Perm (l.set n b) (m.set j b):=by
 have key:∀{k:List α} {i:Nat},k[i]?=some a→List.Perm k (a::k.eraseIdx i)∧List.Perm (k.set i b) (b::k.eraseIdx i):=by
  intro k
  induction k with
  |nil=>intro i hi;simp at hi
  |cons x k ih=>
   intro i hi
   cases i with
   |zero=>simp at hi;subst hi;exact⟨List.Perm.refl _,List.Perm.refl _⟩
   |succ i=>
    simp at hi
    obtain⟨h1,h2⟩:=ih hi
    exact⟨(h1.cons x).trans (List.Perm.swap _ _ _),(h2.cons x).trans (List.Perm.swap _ _ _)⟩
 obtain⟨h1,h2⟩:=key hl
 obtain⟨h3,h4⟩:=key hm
 have:List.Perm (l.eraseIdx n) (m.eraseIdx j):=((h1.symm.trans hp).trans h3).cons_inv
 exact h2.trans ((this.cons b).trans h4.symm)
theorem zN{b:Nat}{en:Array MapEntry}{ck:Nat}(o:Obj)(hb:w.heap[b]?=some (.map en ck)):(setObj b o).run P w=.ok () {w with heap:=w.heap.setIfInBounds b o}:=by
 simp [setObj,Sem.run,hb]
theorem auU{i:Pos}{es:List (V×V)}{L:Loc}(hr:Rel G M h w)(hi:h.get i=some (.map es))(hL:M i=some L):∃en ck,w.heap[L.blk]?=some (.map en ck)∧jQ M es en ck:=by
 obtain⟨L',hL',en,ck,hb,hm⟩:=hr.ob i _ hi
 rw [hL] at hL';cases hL'
 exact⟨en,ck,hb,hm⟩
theorem ajv{t kt et:TypeId}{d:TypeDesc}{ie:TypeInfo}{zc:Value}{z m x:V}{cm cx:Value}{ok:Bool}(ht:P.underlying t=some (.map kt et))(hd:P.underlying kt=some d)(hie:P.info? et=some ie)(hzc:ie.zero=some zc)(hz:const zc=some z)
  (hf:iJ d x=true) (hr:Rel G M h w) (hm:Rp M m cm) (hx:Rp M x cx) (e:qL ok z m x h=.ok r h'):Good P G M h w (Instr.lookup t cm cx ok) r h':=by
 have fin:∀(v:V) (c:Value) (b:Bool),Rp M v c→wU ok v b h=.ok r h'→(Instr.lookup t cm cx ok).run P w=.ok (if ok then .tuple #[c,.bool b] else c) w→Good P G M h w (Instr.lookup t cm cx ok) r h':=by
  intro v c b hv e hrun
  cases ok with
  |true=>
   cases e
   exact .same hr hrun (IL (vs:= [v,.bool b]) (xs:= [c,.bool b]) ⟨_,_,hv,⟨_,_,iZ M b,rfl,rfl⟩,rfl⟩)
  |false=>cases e;exact .same hr hrun hv
 have hzr:(zeroValue et).run P w=.ok zc w:=by simp [zeroValue,typeInfo,hie,hzc]
 have hck:=fun b=>uG (w:=w) hd hf cx b
 unfold qL at e
 split at e
 ·cases hm.gG
  refine fin z zc false (o8 hz M) e ?_
  unfold Instr.lookup
  simp [run_underlying ht,hck,Instr.findKey,run_underlying hd,Instr.findNow,hzr]
 ·rename_i i
  obtain⟨L,hL,rfl⟩:=hm.map
  split at e
  ·rename_i es hes
   obtain⟨en,ck,hb,⟨l,hp,hre⟩,hkd,_⟩:=auU hr hes hL
   have hg:(getObj L.blk).run P w=.ok (.map en ck) w:=by simp [getObj,Sem.run,hb]
   unfold abO at e
   split at e
   ·rename_i o ho
    obtain⟨q,hq,hqo⟩:=find_ok hf hx hp hre hkd ho
    split at e
    ·rename_i v
     cases q with
     |none=>exact hqo.elim
     |some p=>
      obtain⟨j,u⟩:=p
      refine fin v u true hqo.1 e ?_
      unfold Instr.lookup
      simp [run_underlying ht,hg,hck,Instr.findKey,run_underlying hd,hq]
    ·cases q with
     |some p=>exact hqo.elim
     |none=>
      refine fin z zc false (o8 hz M) e ?_
      unfold Instr.lookup
      simp [run_underlying ht,hg,hck,Instr.findKey,run_underlying hd,hq,hzr]
   ·cases e
  ·cases e
 ·cases e
theorem abL{t:TypeId}(hr:Rel G M h w)(e:Ju h=.ok r h'):Good P G M h w (Instr.makeMap t none) r h':=by
 cases e
 have:=hr.new (.map []) (.map #[] 0) 0 (w':=w.alloc (.map #[] 0)) rfl rfl rfl rfl (fun N _=>⟨#[],0,(by show(w.heap.push _)[w.heap.size]?=_;simp),jQ.nil N⟩)
 exact⟨.map (some w.heap.size),_,_,by simp [Instr.makeMap],⟨rfl,_,M.bZ _ _,rfl⟩,this.1,this.2.1⟩
theorem JU{t kt et:TypeId}{d:TypeDesc}{m x y:V}{cm cx cy:Value}(ht:P.underlying t=some (.map kt et))(hd:P.underlying kt=some d)
  (hf:iJ d x=true) (hr:Rel G M h w) (hm:Rp M m cm) (hx:Rp M x cx) (hy:Rp M y cy) (e:nX m x y h=.ok r h'):
  ∃w',(Instr.mapUpdate t cm cx cy).run P w=.ok () w'∧r=V.undef∧Rel G M h' w'∧Ext M h w M h' w':=by
 unfold nX at e
 split at e
 ·rename_i i
  obtain⟨L,hL,rfl⟩:=hm.map
  split at e
  ·rename_i es hes
   obtain⟨en,ck,hb,⟨l,hp,hre⟩,hkd,hborn,hnd⟩:=auU hr hes hL
   have hlt:L.blk<w.heap.size:=(Array.getElem?_eq_some_iff.1 hb).1
   have hg:(getObj L.blk).run P w=.ok (.map en ck) w:=by simp [getObj,Sem.run,hb]
   split at e
   ·rename_i es' hes'
    cases e
    have turn:∀(o:Array MapEntry) (ck':Nat),jQ M es' o ck'→Rel G M (h.put i (some (.map es'))) {w with heap:=w.heap.setIfInBounds L.blk (.map o ck')}∧Ext M h w M (h.put i (some (.map es'))) {w with heap:=w.heap.setIfInBounds L.blk (.map o ck')}:=by
     intro o ck' hmr
     exact hr.turn hes hL rfl (by simp) (fun k hk=>by simp [Array.getElem?_setIfInBounds_ne (Ne.symm hk)]) rfl rfl rfl ⟨o,ck',by simp [hlt],hmr⟩
    have hck:=uG (w:=w) hd hf cx false
    rcases UK hes' with⟨hfi,rfl⟩|⟨n,v,hfi,hn,rfl⟩
    ·obtain⟨q,hq,hqo⟩:=find_ok hf hx hp hre hkd hfi
     cases q with
     |some p=>exact hqo.elim
     |none=>
      have hmr:jQ M (es++ [(x,y)]) (en.push {key:=cx,val:=cy,born:=ck}) (ck+1):=by
       refine⟨⟨l++ [{key:=cx,val:=cy,born:=ck}],by rw [Array.toList_push];exact hp.append_right _,eu.snoc hx hy hre⟩,hkd.snoc fun n k v hn=>tC hfi n k v hn,fun e0 he0=>?_,?_⟩
       ·simp at he0
        rcases he0 with he0|rfl
        ·have:=hborn e0 (by simpa using he0);omega
        ·simp
       ·simp only [Array.toList_push,List.map_append,List.map_cons,List.map_nil]
        rw [List.nodup_append]
        refine⟨hnd,by simp,fun a ha b hb'=>?_⟩
        simp at hb';subst hb'
        obtain⟨e0,he0,rfl⟩:=List.mem_map.1 ha
        have:=hborn e0 he0
        omega
      obtain⟨t1,t2⟩:=turn _ _ hmr
      refine⟨_,?_,rfl,t1,t2⟩
      unfold Instr.mapUpdate
      simp [run_underlying ht,hg,hck,Instr.findKey,run_underlying hd,hq,zN _ hb]
    ·obtain⟨q,hq,hqo⟩:=find_ok hf hx hp hre hkd hfi
     cases q with
     |none=>exact hqo.elim
     |some p=>
      obtain⟨j,u⟩:=p
      obtain⟨_,n',e0,k1,k2,k3,k4,k5⟩:=hqo
      have hnn:n'=n:=by
       by_cases hne:n'=n
       ·exact hne
       ·have:=hkd.others hn n' x v hne k1
        obtain⟨_,_,h2,_⟩:=tu hfi
        rw [h2] at this;cases this
      subst hnn
      have hen:en[j]?=some e0:=by rw [←Array.getElem?_toList];exact k3
      have hmr:jQ M (es.set n' (x,y)) (en.modify j fun e=>{e with key:=cx,val:=cy}) ck:=by
       have hml:(en.modify j fun e=>{e with key:=cx,val:=cy}).toList=en.toList.set j {e0 with key:=cx,val:=cy}:=by
        rw [Array.toList_modify]
        apply List.ext_getElem?
        intro k
        rw [List.getElem?_modify,List.getElem?_set]
        by_cases hjk:j=k
        ·subst hjk
         have hlt':j<en.toList.length:=(List.getElem?_eq_some_iff.1 k3).1
         simp only [if_true,k3,if_pos hlt'];rfl
        ·simp only [hjk,if_false];cases en.toList[k]?<;>rfl
       have hbm:(en.modify j fun e=>{e with key:=cx,val:=cy}).toList.map (·.born)=en.toList.map (·.born):=by
        rw [Array.toList_modify]
        apply List.ext_getElem?
        intro k
        simp only [List.getElem?_map,List.getElem?_modify]
        split<;>(cases en.toList[k]?<;>rfl)
       have hkeys:(es.set n' (x,y)).map (·.1)=es.map (·.1):=by
        rw [List.map_set]
        apply List.ext_getElem?
        intro k
        rw [List.getElem?_set]
        by_cases hnk:n'=k
        ·subst hnk
         have hlt':n'<(es.map (·.1)).length:=by simpa using (List.getElem?_eq_some_iff.1 hn).1
         rw [if_pos rfl,if_pos hlt',List.getElem?_map,hn];rfl
        ·rw [if_neg hnk]
       refine⟨⟨l.set n' {e0 with key:=cx,val:=cy},by rw [hml];exact set_perm hp k2 k3,eu.set hx hy n' hre⟩,by unfold dN;rw [hkeys];exact hkd,fun e1 he1=>?_,by rw [hbm];exact hnd⟩
       have:e1.born∈en.toList.map (·.born):=by rw [←hbm];exact List.mem_map_of_mem he1
       obtain⟨e2,he2,h3⟩:=List.mem_map.1 this
       rw [←h3];exact hborn e2 he2
      obtain⟨t1,t2⟩:=turn _ _ hmr
      refine⟨_,?_,rfl,t1,t2⟩
      unfold Instr.mapUpdate
      have hks:(((en[j]?).map (·.key)).getD cx)=cx:=by rw [hen];exact k4
      simp only [Sem.run_bind,run_underlying ht,Result.andThen_ok,hg,hck,Instr.findKey,run_underlying hd,hq,Sem.run_pure,hks,k5,zN _ hb]
   ·cases e
  ·cases e
 ·cases e
theorem Rel.perm{i:Pos}{es fs:List (V×V)}(hr:Rel G M (h.put i (some (.map es))) w)(hp:List.Perm es fs):Rel G M (h.put i (some (.map fs))) w:=by
 have key:∀{j:Pos} {o:Ob},(h.put i (some (.map fs))).get j=some o→∃o',(h.put i (some (.map es))).get j=some o'∧o'.own=o.own:=fun{j o} hj=>by
  by_cases e:j=i
  ·subst e
   rw [Hp.bC] at hj;cases hj
   exact⟨_,Hp.bC _ _ _,rfl⟩
  ·rw [Hp.aY _ e] at hj
   exact⟨o,by rw [Hp.aY _ e];exact hj,rfl⟩
 refine⟨fun j o hj=>?_,hr.fresh,fun a b o p L K hn ha hb ho hL hK=>?_,hr.gl⟩
 ·by_cases e:j=i
  ·subst e
   rw [Hp.bC] at hj;cases hj
   obtain⟨L,hL,en,ck,hb,⟨l,h1,h2⟩,h3,h4⟩:=hr.ob j _ (Hp.bC _ _ _)
   obtain⟨k,g1,g2⟩:=h2.perm hp
   exact⟨L,hL,en,ck,hb,⟨k,g1.trans h1,g2⟩,h3.perm hp,h4⟩
  ·rw [Hp.aY _ e] at hj
   exact hr.ob j o (by rw [Hp.aY _ e];exact hj)
 ·obtain⟨o',ha',hoo⟩:=key ha
  obtain⟨p',hb',_⟩:=key hb
  exact hr.sep a b o' p' L K hn ha' hb' (by rw [hoo];exact ho) hL hK
theorem Ext.perm{M':Mp}{w':World}{h1:Hp}{i:Pos}{es fs:List (V×V)}(x:Ext M h w M' (h1.put i (some (.map es))) w'):Ext M h w M' (h1.put i (some (.map fs))) w':=by
 have key:∀{j:Pos} {o:Ob},(h1.put i (some (.map fs))).get j=some o→∃o',(h1.put i (some (.map es))).get j=some o'∧o'.own=o.own:=fun{j o} hj=>by
  by_cases e:j=i
  ·subst e
   rw [Hp.bC] at hj;cases hj
   exact⟨_,Hp.bC _ _ _,rfl⟩
  ·rw [Hp.aY _ e] at hj
   exact⟨o,by rw [Hp.aY _ e];exact hj,rfl⟩
 refine⟨x.le,x.next,x.os,x.tape,x.output,x.size,x.same,fun j o L hj ho hL=>?_,fun j hj hn=>?_,fun j o L hj hL=>?_,x.none⟩
 ·obtain⟨o',hj',hoo⟩:=key hj
  exact x.own j o' L hj' (by rw [hoo];exact ho) hL
 ·have h1:=x.old j hj hn
  by_cases e:j=i
  ·subst e;rw [Hp.bC] at h1;cases h1
  ·rw [Hp.aY _ e] at h1⊢;exact h1
 ·obtain⟨o',hj',_⟩:=key hj
  exact x.all j o' L hj' hL
end
end Go.Vm
