/- Part of the claim: facts that its last text uses. No conditions. -/
import Derived.Test.YtfaolchpaooboaaGreatDoorJbAN
set_option linter.all false
namespace Go.Vm
noncomputable section
variable{h h':Hp}{sz n b:Nat}{v:V}{cs:List V}
def Ie(sz:Nat)(v:V):Prop:=∀i o n c,v=.slice i o n c→(match c with| .kn k=>n≤k| .un u=>u=sz)
theorem amP{sz o l m k:Nat}(hl:l≤k)(hk:k≤m):moved sz o l m=o+l*sz∨(moved sz o l m=o∧k=l):=by
 unfold moved
 cases hb:Nat.beq m l with
 |true=>exact .inr ⟨rfl,by have:=Nat.eq_of_beq_eq_true hb;omega⟩
 |false=>exact .inl rfl
theorem Sl.cut(s:Sl b h sz v n cs)(hc:Ie sz v)(hsz:0<sz){lo hi:Nat}(h1:lo≤hi)(h2:hi≤n)(h3:v≠ .af∧v≠ .emp):
  ∃v',(∀h',zJ sz v (some (.int .i64 (lo:Int))) (some (.int .i64 (hi:Int))) none h'=.ok v' h')∧Sl b h sz v' (hi - lo) ((cs.drop (lo*sz)).take ((hi - lo)*sz))∧Ie sz v'∧∀i,dO v'=some i→dO v=some i:=by
 have hl:=s.len
 have hlen:((cs.drop (lo*sz)).take ((hi - lo)*sz)).length=(hi - lo)*sz:=by
  rw [List.length_take,List.length_drop,hl,←Nat.sub_mul]
  exact Nat.min_eq_left (Nat.mul_le_mul_right _ (by omega))
 have hget:∀(all:List V) (o:Nat),(∀k,k<n*sz→all[o+k]?=cs[k]?)→∀k,k<(hi - lo)*sz→all[o+lo*sz+k]?=((cs.drop (lo*sz)).take ((hi - lo)*sz))[k]?:=fun all o ha k hk=>by
  rw [List.getElem?_take,if_pos hk,List.getElem?_drop,Nat.add_assoc]
  apply ha
  have:lo*sz+(hi - lo)*sz≤n*sz:=by rw [←Nat.add_mul];exact Nat.mul_le_mul_right _ (by omega)
  omega
 rcases s.is with⟨_,h0|h0⟩|⟨i,o,c,wr,all,rfl,hi',hg,ha⟩
 ·exact absurd h0 h3.1
 ·exact absurd h0 h3.2
 ·have hcap:=hc i o n c rfl
  cases c with
  |kn k=>
   have hk:n≤k:=hcap
   have e1:Nat.ble k k=true:=Nat.ble_eq_true_of_le (Nat.le_refl _)
   have e2:Nat.ble hi k=true:=Nat.ble_eq_true_of_le (by omega)
   have e3:Nat.ble lo hi=true:=Nat.ble_eq_true_of_le h1
   refine⟨.slice i (moved sz o lo k) (hi - lo) (.kn (k - lo)),fun h'=>?_,⟨hlen,?_⟩,fun i' o' n' c' e=>by cases e;show hi - lo≤k - lo;omega,fun j hj=>hj⟩
   ·show(match Nat.ble k k,Nat.ble hi k,Nat.ble lo hi with
     |true,true,true=>bQ (moved sz o lo k) fun q=>bQ (hi - lo) fun n=>R.ok (V.slice i q n (.kn (k - lo))) h'
     |_,_,_=>.bad)=_
    rw [e1,e2,e3]
    simp only [bf]
   ·refine .inr ⟨i,_,_,wr,all,rfl,hi',hg,fun q hq=>?_⟩
    rcases amP (sz:=sz) (o:=o) (m:=k) h1 (by omega) with e|⟨_,e⟩
    ·rw [e];exact hget all o ha q hq
    ·rw [e,Nat.sub_self,Nat.zero_mul] at hq;omega
  |un u=>
   have hu:u=sz:=hcap
   subst hu
   have e2:Nat.ble hi n=true:=Nat.ble_eq_true_of_le h2
   have e3:Nat.ble lo hi=true:=Nat.ble_eq_true_of_le h1
   cases lo with
   |zero=>
    refine⟨.slice i o hi (.un u),fun h'=>?_,⟨hlen,.inr ⟨i,o,.un u,wr,all,rfl,hi',hg,fun q hq=>?_⟩⟩,fun i' o' n' c' e=>(by cases e;rfl),fun j hj=>hj⟩
    ·show(match Nat.ble hi n,Nat.ble 0 hi,Nat.beq u u with
      |true,true,true=>R.ok (V.slice i o hi (.un u)) h'
      |_,_,_=>R.bad)=_
     rw [e2,e3,Nat.beq_refl]
    ·have:=hget all o ha q hq
     rw [show o+0*u+q=o+q by omega] at this
     exact this
   |succ l=>
    have es:∀h',zJ u (.slice i o n (.un u)) (some (.int .i64 ((l+1:Nat):Int))) (some (.int .i64 (hi:Int))) none h'=(match Nat.blt (l+1) n with
      |true=>bQ (o+(l+1)*u) fun q=>bQ (hi - (l+1)) fun n=>R.ok (V.slice i q n (.un u)) h'
      |false=>.ok .emp h'):=fun h'=>by
     show(match Nat.ble hi n,Nat.ble (l+1) hi,Nat.beq u u with
      |true,true,true=>(match Nat.blt (l+1) n with
       |true=>bQ (o+(l+1)*u) fun q=>bQ (hi - (l+1)) fun n=>R.ok (V.slice i q n (.un u)) h'
       |false=>.ok .emp h')
      |_,_,_=>R.bad)=_
     rw [e2,e3,Nat.beq_refl]
    by_cases hlt:l+1<n
    ·have e4:Nat.blt (l+1) n=true:=by rw [Nat.blt_eq];exact hlt
     refine⟨.slice i (o+(l+1)*u) (hi - (l+1)) (.un u),fun h'=>by rw [es];simp only [e4,bf],⟨hlen,.inr ⟨i,_,_,wr,all,rfl,hi',hg,fun q hq=>hget all o ha q hq⟩⟩,fun i' o' n' c' e=>(by cases e;rfl),fun j hj=>hj⟩
    ·have e4:Nat.blt (l+1) n=false:=by
      cases hb:Nat.blt (l+1) n with
      |false=>rfl
      |true=>rw [Nat.blt_eq] at hb;omega
     have hz:hi - (l+1)=0:=by omega
     exact⟨.emp,fun h'=>by rw [es];simp only [e4],⟨hlen,.inl ⟨hz,.inr rfl⟩⟩,fun i' o' n' c' e=>(by cases e),fun j hj=>(by cases hj)⟩
end
end Go.Vm
namespace Go.Vm
noncomputable section
variable{h h':Hp}{sz n b:Nat}{v:V}{cs:List V}
theorem Sl.from(s:Sl b h sz v n cs)(hc:Ie sz v)(hsz:0<sz){lo:Nat}(h1:lo≤n):
  ∃v',(∀h',qK sz v (some (.int .i64 (lo:Int))) none none h'=.ok v' h')∧Sl b h sz v' (n - lo) (cs.drop (lo*sz))∧Ie sz v'∧∀i,dO v'=some i→dO v=some i:=by
 by_cases h3:v=.af∨v=.emp
 ·have hn:n=0:=by
   rcases s.is with⟨h0,_⟩|⟨i,o,c,wr,all,e,_⟩
   ·exact h0
   ·rcases h3 with h3|h3<;>rw [h3] at e<;>cases e
  subst hn
  have hlo:lo=0:=by omega
  subst hlo
  have hcs:cs= []:=List.length_eq_zero_iff.1 (by rw [s.len];simp)
  subst hcs
  exact⟨v,fun h'=>by rcases h3 with rfl|rfl<;>rfl,by simpa using s,hc,fun _ hi=>hi⟩
 ·obtain⟨v',e1,e2,e3,e4⟩:=s.cut hc hsz (hi:=n) h1 (Nat.le_refl _) ⟨fun q=>h3 (.inl q),fun q=>h3 (.inr q)⟩
  refine⟨v',fun h'=>?_,?_,e3,e4⟩
  ·rw [←e1 h']
   rcases s.is with⟨_,h0⟩|⟨i,o,c,wr,all,rfl,_⟩
   ·exact absurd h0 h3
   ·rfl
  ·have hl:(cs.drop (lo*sz)).length≤(n - lo)*sz:=by rw [List.length_drop,s.len,←Nat.sub_mul];exact Nat.le_refl _
   rw [List.take_of_length_le hl] at e2
   exact e2
end
end Go.Vm
namespace Go.Vm
noncomputable section
variable{h h':Hp}{el:TypeId}{bt:Nat}{c:EqC}
theorem wrap_u8{n:Nat}(hn:n<256):IntKind.u8.wrap (n:Int)=(n:Int):=by
 simp [IntKind.wrap,IntKind.signed,IntKind.bits]
 omega
theorem yc{p:Pos}{n:Nat}{t:TypeId}{f:Bool}{s:List Nat}{rest:List V}(hg:h.get p=some (.cells (.rw t f) (bys s++rest)))(hs:∀b∈s,b<256):dR (.slice p 0 s.length (.kn n)) h=.ok (.str s) h:=by
 show dL h p (fun _ cs=>(match fP s.length (eY 0 cs) with
  |some l=>(match jd l with|some s=>R.ok (V.str s) h|none=>.bad)
  |none=>.bad))=_
 rw [jm (wr:=.rw t f) (all:=bys s++rest) (by rw [hg];rfl),yt (cs:=bys s) (fun k hk=>by rw [Nat.zero_add,List.getElem?_append_left (by rw [kK];exact hk)]) (kK s)]
 simp only []
 rw [sK hs]
end
end Go.Vm
namespace Go.Vm
noncomputable section
variable{h h':Hp}{el:TypeId}{bt:Nat}{c:EqC}{P:Program}
theorem TR(n:Nat)(i:Pos)(q:Nat):aO .eql (.ptr n) (.ptr i q) .fJ h=.ok (.bool false) h:=(rfl)
theorem Jb{n:Nat}(hn:Nat.beq n 0=false)(i:Pos)(q:Nat):aO .neq (.ptr n) (.ptr i q) (.ptr i q) h=.ok (.bool false) h:=by
 show(match Nat.beq n 0,i.eq i with|false,true=>cO (not (Nat.beq q q)) h|_,_=>.bad)=_
 rw [hn,Pos.eq_self,Nat.beq_refl];rfl
theorem YK{b n:Nat}{v:V}{s t:List Nat}(o:Ow b h el 1 v n (bys s))(hb:b≤h.next.nat)(hs:(n+t.length)*bt≤140737488355328):
  ∃v' h',dQ el 1 bt v (.str t) h=.ok v' h'∧Ow b h' el 1 v' (n+t.length) (bys (s++t))∧Ch (fun j=>dO v=some j) h h'∧(∀j,dO v'=some j→dO v=some j∨h.next.nat≤j.nat):=by
 have hl:(bys (s++t)).length=(n+t.length)*1:=by rw [Du,List.length_append,o.len,kK];omega
 have hsrc:∀f:Nat→List V→R V,lY 1 (.str t) h f=f t.length (bys t):=fun f=>by
  show(match Nat.beq 1 1 with|true=>f t.length (u8s t)|false=>.bad)=_
  rw [avK]
 unfold dQ
 rw [hsrc]
 cases t with
 |nil=>
  simp only [List.length_nil,List.append_nil] at*
  rcases o.is with⟨rfl,rfl⟩|⟨i,rfl,hbi,hi,f1,hg⟩
  ·exact⟨_,_,rfl,o,Ch.refl _ _,fun j hj=>(by cases hj)⟩
  ·exact⟨_,_,rfl,o,Ch.refl _ _,fun j hj=>.inl hj⟩
 |cons c t=>
  simp only [List.length_cons]
  rcases o.is with⟨rfl,rfl⟩|⟨i,rfl,hbi,hi,f1,hg⟩
  ·have hc:s= []:=by have:=o.len;rw [kK] at this;exact List.length_eq_zero_iff.1 (by omega)
   subst hc
   simp only []
   rw [mY (by rw [List.length_cons,Nat.zero_add] at hs;exact hs)]
   refine⟨_,_,rfl,⟨hl,.inr ⟨h.next,by simp,hb,by rw [iF];omega,false,?_⟩⟩,Ch.new _ _ _,fun j hj=>by cases hj;exact .inr (Nat.le_refl _)⟩
   rw [List.nil_append];exact jH _ _
  ·simp only []
   rw [jm (wr:=.rw el f1) (all:=bys s) (by rw [hg];rfl)]
   have hn:(bys s).length=n*1:=o.len
   have h1:fP (n*1) (eY 0 (bys s))=some (bys s):=by rw [iT,List.drop_zero,←hn,Fj]
   have h2:eY (n*1) (eY 0 (bys s))= []:=by rw [iT,iT,List.drop_zero,←hn,List.drop_length]
   simp only [bf,h1,h2,Nat.beq_refl]
   rw [mY (by rw [List.length_cons] at hs;exact hs)]
   refine⟨_,_,rfl,⟨hl,.inr ⟨h.next,rfl,hb,by rw [iF,IZ];omega,false,?_⟩⟩,(Ch.put (S:=fun j=>dO (.slice i 0 n (.un 1))=some j) h none rfl).trans (Ch.new (fun _=>False) _ _) fun _ _ q=>q.elim,fun j hj=>by cases hj;exact .inr (Nat.le_refl _)⟩
   rw [Du];exact jH (h.put i none) _
end
end Go.Vm
namespace Go.Vm
noncomputable section
variable{h h':Hp}{el:TypeId}{bt:Nat}{c:EqC}
end
end Go.Vm
namespace Go.Vm
theorem vmL:type_of% @wH∧type_of% @uN∧type_of% @Fh∧type_of% @Iu∧type_of% @sZ∧type_of% @YJ∧type_of% @Au∧type_of% @tY∧type_of% @yK∧type_of% @vK∧type_of% @X9∧type_of% @Yv∧type_of% @En∧type_of% @Oe∧type_of% @Oa∧type_of% @Em∧type_of% @Nat.zero_ne_one∧type_of% @Nat.one_ne_zero∧type_of% @JK∧type_of% @JC∧type_of% @JJ∧type_of% @JE∧type_of% @JF∧type_of% @JG∧type_of% @JH∧type_of% @JI∧type_of% @UN∧type_of% @Aa∧type_of% @xZ∧type_of% @Ag∧type_of% @Af∧type_of% @Ae∧type_of% @UO∧type_of% @UQ∧type_of% @uz∧type_of% @vk∧type_of% @JD∧type_of% @qN∧type_of% @vG∧type_of% @vF∧type_of% @uF∧type_of% @JB∧type_of% @uD∧type_of% @NY∧type_of% @YG∧type_of% @Dv∧type_of% @uI∧type_of% @qM∧type_of% @Gi∧type_of% @Bool.not_true∧type_of% @Bool.not_false:=
 ⟨@wH,@uN,@Fh,@Iu,@sZ,@YJ,@Au,@tY,@yK,@vK,@X9,@Yv,@En,@Oe,@Oa,@Em,@Nat.zero_ne_one,@Nat.one_ne_zero,@JK,@JC,@JJ,@JE,@JF,@JG,@JH,@JI,@UN,@Aa,@xZ,@Ag,@Af,@Ae,@UO,@UQ,@uz,@vk,@JD,@qN,@vG,@vF,@uF,@JB,@uD,@NY,@YG,@Dv,@uI,@qM,@Gi,@Bool.not_true,@Bool.not_false⟩
theorem vsL:type_of% @vC∧type_of% @vz∧type_of% @FK∧type_of% @uw∧type_of% @Nat.zero_add∧type_of% @I4:=
 ⟨@vC,@vz,@FK,@uw,@Nat.zero_add,@I4⟩
theorem vpL:(∀{α:Type} (a b:α),(some a).getD b=a)∧(∀{α:Type} (b:α),(none:Option α).getD b=b)∧(∀{α:Type} (a:α),(some a).isSome=true)∧(∀{α:Type},(none:Option α).isSome=false):=
 ⟨fun _ _=>rfl,fun _=>rfl,fun _=>rfl,rfl⟩
theorem vqL:(∀{α:Type} (a b:α),(a≠b)=¬(a=b))∧(∀h:Decidable True,@decide True h=true)∧(∀h:Decidable False,@decide False h=false)∧((¬True)=False)∧((¬False)=True):=
 ⟨fun _ _=>rfl,fun h=>decide_true h,fun h=>decide_false h,propext not_true,not_false_eq_true⟩
end Go.Vm
