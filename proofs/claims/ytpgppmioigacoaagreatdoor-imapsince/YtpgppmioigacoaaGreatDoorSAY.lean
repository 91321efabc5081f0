/- Lemmas that the claim's last text uses. No conditions. -/
import Derived.Test.YtpgppmioigacoaaGreatDoorSAX
import Derived.Test.YtpgppmioigacoaaGreatDoorSAV
import Derived.Test.YtpgppmioigacoaaGreatDoorSAW
import Derived.Test.YtpgppmioigacoaaGreatDoorSAU
import Derived.Test.YtpgppmioigacoaaGreatDoorSAS
set_option linter.all false
set_option maxRecDepth 100000
open Nat renaming reduceEqDiff→a!,le_refl→e!,add_zero→n!,mul_one→q!,zero_add→A!,beq_refl→B!,beq→N!
open List renaming getElem?_eq_getElem→b!,mem_of_getElem?→d!,getElem?_set_self→g!,getElem?_map→h!,take_length→j!,length_cons→k!,length_map→l!,length_take→o!,drop_of_length_le→p!,length_append→r!,map_append→t!,length_set→u!,append_nil→v!,drop_zero→w!,getElem?_eq_some_iff→x!,drop_eq_getElem_cons→y!,length_eq_zero_iff→z!,mem_iff_getElem→D!,getElem?_set_ne→E!,filter_eq_self→F!,getElem?_drop→G!,take_add_one→H!,ext_getElem?→I!,drop_append→J!,mem_append→K!,drop_drop→L!,mem_map→M!
open Go.Vm.Pos renaming of→c!
open Go.Proofs.Tryz renaming prog→i!
open Int renaming reduceNe→C!,sub_zero→O!,sub_self→P!
open Go.Vm.V renaming int→Y,ptr→X,bool→K,str→H
open Go.IntKind renaming i64→U
open Go.Vm.Ob renaming cells→O
open Go.Vm.Wr renaming rw→N
open Go.Vm.R renaming ok→D
noncomputable section
open Go Go.Vm Go.Ln Go.Proofs Go.Im
namespace Go.Im
abbrev aec:List Nat:= [46,115,105,108,101,110,116]
abbrev qB:List Nat:= [102,108,97,103,115]
abbrev aOu:List Nat:= [117,110,99,104,97,110,103,101,100,115,105,110,99,101]
abbrev asg(k:Int)(t:List Nat)(v:V):V:=.agg (.cons (Y U k) (.cons (H t) (.cons v .nil)))
abbrev RJ(k:Int)(t:List Nat)(v:V):List V:= [Y U k,H t,v]
theorem bxW(t:TypeId)(k:Int)(s:List Nat)(v:V)(h:Hp):fO t (asg k s v) h=D (X h.next 0) (h.new (O (N t true) (RJ k s v))):=(rfl)
end Go.Im
namespace Go.Proofs.Im
section
variable{h h' g:Hp}{P:Pos->Prop}{v a vk:V}{kids w:Wds}{x0 x1 x:Wd}{tx nm key:List Nat}{n:Nat}
theorem aD1(b:n<20)(h:Hp):Xy [H (dP n)] h=D (Ik.aew n) h:=zI (Ik.aIl n b) h
theorem aG5(h:Hp):Bg [H ([43]++qB++aec),H aec] h=D (.tuple (.cons (H (43::qB)) (.cons (K true) .nil))) h:=(rfl)
theorem aEJ(h:Hp):Bg [H ([45]++qB++aec),H aec] h=D (.tuple (.cons (H (45::qB)) (.cons (K true) .nil))) h:=(rfl)
theorem aOe(h:Hp):EH [H [121]] h=D (.tuple (.cons (H [121]) (.cons (K true) .nil))) h:=(rfl)
theorem aBA(t:WS P h a kids)(hl:kids.len=2)(h0:kids.get? 0=some x0)(J:x0.kind=1)(p:x0.text.length<1000000000/\∀c∈x0.text,c<256)(C:foldM x0.text=nm)(B:kids.get? 1=some x1)(L:x1.kind=1)(G:x1.text=dP n)(E:n<20):
  ∃h',Q7 [asg 3 tx a,H nm] h=D (Ik.aew n) h'/\Nw h h':=by
 obtain⟨i,k,o,kk⟩:=mkW h (O (N Bq true) (RJ 3 tx a));have m:=bxW Bq 3 tx a h;rw[<-k]at m;have s:WS P i a kids:=t.ch o λj _ q=>⟨q,λq=>q⟩
 obtain⟨j,q,vk,i1,i2,i3,-,-⟩:=WS.at s h0;have l:∀h',aX 3 a (Y U 0) h'=D (X j q) h':=i1;rw[J]at i2;obtain⟨S,d,e2,rfl,z⟩:=SS (h:=i) p.1 p.2;rw[C]at e2;have b:Nw i d:=z;have t2:WS P d a kids:=s.ch b λj _ q=>⟨q,λq=>q⟩
 obtain⟨I,M,Q,a1,a2,a3,-,-⟩:=WS.at t2 B;have f:∀h',aX 3 a (Y U 1) h'=D (X I M) h':=a1;rw[L]at a2;rw[G]at a3;have u:=kk.ld (q:=0) (x:=Y U 3) rfl;have y:=kk.ld (q:=2) (x:=a) rfl;have e:=(kk.nw b).ld (q:=2) (x:=a) rfl;have r:=λh=>t.len h;rw[hl]at r;have en:=aD1 E d;refine⟨d,?_,o.trans b⟩;rw[arI];simp(disch:=omega)only[vvB,seval,abq,afu,aft,afs,m,u,y,e,r,l,i2,i3,e2,f,a2,a3,en,n!,eq_self,Ik.aew];simp only[aU,cO,vvB,seval,dn];rfl
theorem aD6{c:Nat}(y:c=43\/c=45)(r:tx.length<1000000000/\∀c∈tx,c<256)(z:foldM tx= [c]++qB++aec):
  ∃h',V7 [asg 1 tx vk] h=D (.tuple (.cons (Y .u8 (c:Int)) (.cons (K true) (.cons (K true) .nil)))) h'/\Nw h h':=by
 obtain⟨p,l,s,kk⟩:=mkW h (O (N Bq true) (RJ 1 tx vk));have e:=bxW Bq 1 tx vk h;rw[<-l]at e;obtain⟨B,d,e2,rfl,t⟩:=SS (h:=p) r.1 r.2;rw[z]at e2;have b:Nw p d:=t;have o:=kk.ld (q:=1) (x:=H tx) rfl;have m:=(kk.nw b).ld (q:=0) (x:=Y U 1) rfl;refine⟨d,?_,s.trans b⟩;rw[av9];rcases y with rfl|rfl
 ·have i:=aG5 d;have f:∀h,kG (H (43::qB)) (Y U 0) h=D (Y .u8 ((43:Nat):Int)) h:=λh=>aep rfl;have j:((43::qB)= [102,108,97,103,115])=False:=eq_false (by decide);have k:((43::qB)= [43,102,108,97,103,115])=True:=eq_true rfl;simp(disch:=omega)only[vvB,seval,VP,Xh,Xg,Xf,Xe,Xd,Xc,e,o,m,e2,i,j,f,n!,eq_self];simp only[aU,cO,vvB,seval,dn];rfl
 ·have i:=aEJ d;have f:∀h,kG (H (45::qB)) (Y U 0) h=D (Y .u8 ((45:Nat):Int)) h:=λh=>aep rfl;have j:((45::qB)= [102,108,97,103,115])=False:=eq_false (by decide);have k:((45::qB)= [43,102,108,97,103,115])=False:=eq_false (by decide);have u:((45::qB)= [45,102,108,97,103,115])=True:=eq_true rfl;simp(disch:=omega)only[vvB,seval,VP,Xh,Xg,Xf,Xe,Xd,ai9,Xc,e,o,m,e2,i,j,k,f,n!,eq_self];simp only[aU,cO,vvB,seval,dn];rfl
theorem aN4(t:TypeId)(s:List Nat)(h:Hp):bJ t [(H [])] 1 [(0,1,H s)] h=D (.slice h.next 0 1 (.kn 1)) (h.new (O (N t true) (fF s))):=(rfl)
theorem aBC(t:WS P h v w)(hl:w.len=1)(h0:w.get? 0=some x)(hk:x.kind≠3)(C:∀h,EH [H x.text] h=D (.tuple (.cons (H key) (.cons (K true) .nil))) h):
  ∃r h',Q9 [v] h=D (.tuple (.cons r (.cons (iV 0) (.cons (K true) .nil)))) h'/\gK h.next.nat (flat fF) lT 1 h' r [key]/\Nw h h':=by
 have M:=λh=>t.len h;rw[hl]at M;rw[arK]
 suffices T:aW i! [.tmp 2,.tmp 3,.tmp 4] (λQ h'=>∃r,Q=.tuple (.cons r (.cons (iV 0) (.cons (K true) .nil)))/\gK h.next.nat (flat fF) lT 1 h' r [key]/\Nw h h') (QN (T.set (some v) (c! 0) T.nil) h) by
  obtain⟨Q,h',e,r,rfl,q⟩:=T;exact⟨r,h',e,q⟩
 simp only[vvB,reduceCtorEq,↓reduceIte,QN,afN,afM,afL,afK,M];refine Oc.then (dK (σ:=V) (n:=1) (pi:=13) (pn:=12) (pc:=14) [5,6,11] (λr=> [r,iV 0,v]) (λk r g=>Nw h g/\gK h.next.nat (flat fF) lT 1 g r ([key].take k))
  (A:=λfr g=>∃r,fr.get (c! 5)=some r/\fr.get (c! 6)=some (iV 0)/\Nw h g/\gK h.next.nat (flat fF) lT 1 g r [key]) (B:=λ_ _=>False) (s:=.aO)
  (λfr h _ k e1 e2=>by simp only[vvB,afJ,e1,e2]) (λfr h k _ e1=>by simp(disch:=omega)only[vvB,adB,e1]) (by decide) (by rw[dO];omega) (qK0) (qK0) (by simp only[Fa,vvB,a!,↓reduceIte,and_self]) ⟨Nw.refl _,gK.nil _ _ _ _ _⟩ ?_ ?_) ?_ ?_
 ·intro k r fr g ab u E G I;obtain⟨y,p,d,-⟩:=G;obtain⟨c,o⟩:=I;obtain rfl:k=0:=by omega
  have tg:WS P g v w:=t.ch c λj _ q=>⟨q,λq=>q⟩
  obtain⟨j,q,vk,i1,i2⟩:=WS.atN tg h0;have J:∀h',aX 3 v (Y U ((0:Nat):Int)) h'=D (X j q) h':=i1;obtain⟨i,m⟩:∃i,i=g.new (O (N Bq true) (RJ x.kind x.text vk)):=⟨_,rfl⟩
  have W:aQ 3 (X g.next 0) (asg x.kind x.text vk) (g.new (O (N Bq true) [(Y U 0),(H []),.aO]))=D V.undef i:=by
   rw[m];exact ig (h:=g) (t:=Bq) (f:=true) (z:= [(Y U 0),(H []),.aO]) (l:=V.ofList (RJ x.kind x.text vk)) (n:=3) (V.dG _) rfl rfl
  have b:Nw g i:=by rw[m];exact Nw.new _ _
  have L:Kn i g.next (O (N Bq true) (RJ x.kind x.text vk)):=by rw[m];exact Kn.new _ _
  have Z:=L.ld (q:=0) (x:=Y U x.kind) rfl;have W1:=L.ld (q:=1) (x:=H x.text) rfl;have eK:(x.kind=3)=False:=eq_false hk;have eq:=C i;have S:=aN4 lT key i;have aa:=(c.trans b).next;obtain⟨r',g3,e3,o3,c3,-⟩:=(o.nw (aK _) b).app (P0:=λ_=>False) (bt:=16) (x:=key) (cs:=fF key) (aK _) (by omega) rfl rfl (λj _ q=>q.elim) (by simp);simp(disch:=omega)only[vvB,a!,↓reduceIte,afI,afH,afG,afF,adC,y,d,u,J,i2,W,Z,W1,eK,eq,S,e3];refine⟨qK2 u,qK2 E,r',by simp only[Fa,vvB,a!,↓reduceIte,p,d,and_self],(c.trans b).then c3 λj hj q=>?_,by simpa using o3⟩;have:=(o.eY q).1;omega
 ·intro r fr g G I;obtain⟨y,p,d,-⟩:=G;obtain⟨c,o⟩:=I;exact⟨r,y,p,c,o⟩
 ·rintro fr g ⟨r,y,p,c,o⟩;simp only[vvB,adA,y,p];exact aW.ret (qT0) ⟨r,rfl,o,c⟩
 ·intro fr g q;exact q.elim
end
end Go.Proofs.Im
namespace Go.Vm
section
variable{g:Hp}{P:Pos->Prop}
def Room(b:Nat)(el:TypeId)(g:Hp)(v:V)(acc:List (List Nat))(n:Nat):Prop:=
 (acc= []/\n=0/\v=.aO)\/∃i rest,v=.slice i 0 acc.length (.un 1)/\Kn g i (O (N el false) (acc.map H++rest))/\rest.length=n/\b<=i.nat
theorem abY(z:V):∀n:Nat,(times n [z]).length=n
 |0=>rfl
 |n+1=>by show(z::times n [z]).length=n+1;rw[k!,abY z n]
theorem Room.app{b n:Nat}{el:TypeId}{v x:V}{acc l:List (List Nat)}{c:List Nat->List V}(J:∀s,c s= [H s])(r:Room b el g v acc n)(R:Rws P (flat c) 1 g x l)(hl:l.length<=n):
  ∃G g',bK el 1 16 v x g=D G g'/\Room b el g' G (acc++l) (n - l.length)/\Ch (λj=>b<=j.nat) g g':=by
 obtain⟨I,a,S,s,-,-⟩:=R;obtain rfl:=a.flat;have p:(l.map c).flatten=l.map H:=by
  have:c=λs=> [H s]:=funext J;rw[this,LD]
 rw[p]at s;cases t:l with
 |nil=>
  rcases r with⟨rfl,rfl,rfl⟩|⟨i,rest,rfl,k,u,hi⟩
  ·exact⟨.aO,g,by subst t;unfold bK;rw[s.src];rfl,.inl ⟨rfl,rfl,rfl⟩,Ch.refl _ _⟩
  ·exact⟨_,g,by subst t;unfold bK;rw[s.src];rfl,.inr ⟨i,rest,by rw[v!],by rw[v!];exact k,by simp[u],hi⟩,Ch.refl _ _⟩
 |cons y m=>
  rw[t]at hl;simp only[k!]at hl;rcases r with⟨rfl,rfl,rfl⟩|⟨i,rest,rfl,k,u,hi⟩
  ·omega
  ·have e:(acc.map H).length=acc.length:=l! _;have q:jh (0+acc.length*1) ((y::m).map H) (acc.map H++rest)=some ((acc++(y::m)).map H++rest.drop (m.length+1)):=by
    rw[EJ (by simp;omega),A!,q!];congr 1;rw[List.take_append_of_le_length (by omega),List.take_of_length_le (by omega),l!,k!,J!,e,p! (by omega),t!];simp[List.append_assoc]
   have B:gQ (acc.length*1) (eP 0 (acc.map H++rest))=some (acc.map H):=by
    rw[q!];exact qw (λf M=>by rw[A!,List.getElem?_append_left (by omega)]) e
   obtain⟨z,o,L⟩:∃z C,rest=z::C:=by
    cases rest with
    |nil=>simp at u;omega
    |cons z C=>exact⟨z,C,rfl⟩
   have w:eP (acc.length*1) (eP 0 (acc.map H++rest))=z::o:=by
    rw[jb,jb,w!,q!,J!,e,p! (by omega),Nat.sub_self,w!,L];rfl
   have E:N! el el=true:=B! el;refine⟨.slice i 0 (acc.length+(m.length+1)) (.un 1),g.put i (some (O (N el false) ((acc++(y::m)).map H++rest.drop (m.length+1)))),?_,.inr ⟨i,rest.drop (m.length+1),by rw[r!,k!],k.put _,by rw[List.length_drop,u,k!],hi⟩,Ch.put _ _ hi⟩;subst t;unfold bK;rw[s.src];show dQ g i _=_;rw[dL (wr:=N el false) (all:=acc.map H++rest) (by rw[k.1];rfl)];simp only[dF,B!,B,w,q]
end
end Go.Vm
namespace Go.Proofs.Im
section
variable{h h' g:Hp}{P Q:Pos->Prop}{v d vb:V}{a b:List (List Nat)}{n:Nat}{i:Pos}{wr:Wr}
theorem aD0(q:n<=1000):∃r h',zu [.aO,iV (n:Int)] h=D r h'/\Room h.next.nat lT h' r [] n/\Nw h h':=by
 rw[agA];have j:eU 1 .aO none (some (Y U 0)) none h=D .aO h:=rfl;by_cases p:n=0
 ·subst p;have o:((0:Int)<0)=False:=eq_false (by omega);refine⟨.aO,h,?_,.inl ⟨rfl,rfl,rfl⟩,Nw.refl _⟩;simp(disch:=omega)only[vvB,seval,zq,BI,BH,BG,BF,BD,show Wq .aO h=D (Y U 0) h from rfl,show aZ 2 .aO h=D (Y U 0) h from rfl,Int.natCast_zero,P!,o];simp only[aU,cO,vvB,seval,dn]
 ·have l:((n:Int)<0)=False:=eq_false (by omega);have e1:((n:Int)>0)=True:=eq_true (by omega);have f:Z7 lT 1 16 [(H [])] .aO (Y U (n:Int)) h=D (.slice h.next 0 n (.un 1)) (h.new (O (N lT false) (times n [H []]))):=by
   obtain⟨m,rfl⟩:∃m,n=m+1:=⟨n - 1,by omega⟩
   show(match Nat.ble (Nat.mul (m+1) 16) 140737488355328 with|true=>kM lT 1 16 (m+1) (times (m+1) [H []]) h h|false=>.bad)=_;rw[Nat.ble_eq_true_of_le (show Nat.mul (m+1) 16<=_ by show(m+1)*16<=_;omega),lU (by omega)]
  obtain⟨e,c⟩:∃e,e=h.new (O (N lT false) (times n [H []])):=⟨_,rfl⟩
  rw[<-c]at f;have k:eU 1 (.slice h.next 0 n (.un 1)) none (some (Y U 0)) none e=D (.slice h.next 0 0 (.un 1)) e:=asD (w:=1) (n:=n) (m:=0) (Nat.zero_le _) e;refine⟨.slice h.next 0 0 (.un 1),e,?_,.inr ⟨h.next,times n [H []],rfl,by rw[c];exact Kn.new _ _,abY _ _,e! _⟩,by rw[c];exact Nw.new _ _⟩;simp(disch:=omega)only[vvB,seval,zq,BI,BH,BG,BF,PD,BD,show ∀h,Wq .aO h=D (Y U 0) h from λh=>rfl,show ∀h,aZ 2 .aO h=D (Y U 0) h from λh=>rfl,P!,O!,l,e1,j,f,k];simp only[aU,cO,vvB,seval,dn]
theorem aw2(Ra:Rws P (flat fF) 1 h d a)(Rb:Rws Q (flat fF) 1 h vb b)(E:Kn h i (O wr [d,vb]))(ha:a.length<=100)(hb:b.length<=100):
  ∃r h',vI [.slice i 0 2 (.kn 2)] h=D r h'/\Room h.next.nat lT h' r (a++b) 0/\Nw h h':=by
 have ll:∀h,aZ 2 (.slice i 0 2 (.kn 2)) h=D (Y U 2) h:=λh=>rfl;have e:∀(k:Nat) (x:V) (l:List (List Nat)),((k=0/\x=d/\l=a)\/(k=1/\x=vb/\l=b))->∀g,Nw h g->(∀g',aX 1 (.slice i 0 2 (.kn 2)) (Y U (k:Int)) g'=D (X i k) g')/\aF (X i k) g=D x g/\∃P',Rws P' (flat fF) 1 g x l:=by
  rintro k' x l (⟨rfl,rfl,rfl⟩|⟨rfl,rfl,rfl⟩) g c
  ·exact⟨λg'=>rfl,(E.nw c).ld rfl,P,Ra.nw (aK _) c⟩
  ·exact⟨λg'=>rfl,(E.nw c).ld rfl,Q,Rb.nw (aK _) c⟩
 rw[abO];show aW i! _ (λr h'=>Room h.next.nat lT h' r (a++b) 0/\Nw h h') _;simp only[vvB,reduceCtorEq,↓reduceIte,Cb,JR,JQ,JO,ll];refine Oc.then (dK (σ:=Nat) (n:=2) (pi:=11) (pn:=10) (pc:=12) [0,9,3] (λt=> [.slice i 0 2 (.kn 2),.slice i 0 2 (.kn 2),iV (t:Int)]) (λk t g=>g=h/\t=(if k=0 then 0 else if k=1 then a.length else a.length+b.length))
  (A:=λfr g=>fr.get (c! 0)=some (.slice i 0 2 (.kn 2))/\fr.get (c! 3)=some (iV ((a.length+b.length:Nat):Int))/\g=h) (B:=λ_ _=>False) (s:=0)
  (λfr h _ k e1 e2=>by simp only[vvB,JM,e1,e2]) (λfr h k _ e1=>by simp(disch:=omega)only[vvB,JI,e1]) (by decide) (by rw[dO];omega) (qK0) (qK1) (by simp only[Fa,vvB,a!,reduceCtorEq,↓reduceIte];exact⟨trivial,trivial,rfl,trivial⟩) ⟨rfl,rfl⟩ ?_ ?_) ?_ ?_
 ·intro k t fr g hk w I m o;obtain⟨f0,L,f3,-⟩:=m;obtain⟨rfl,p⟩:=o;obtain⟨x,l,hx,M,Z⟩:∃x l,((k=0/\x=d/\l=a)\/(k=1/\x=vb/\l=b))/\l.length<=100/\t+l.length=(if k+1=0 then 0 else if k+1=1 then a.length else a.length+b.length):=by
   rcases(by omega:k=0\/k=1) with rfl|rfl
   ·exact⟨d,a,.inl ⟨rfl,rfl,rfl⟩,ha,by simp at p⊢;omega⟩
   ·exact⟨vb,b,.inr ⟨rfl,rfl,rfl⟩,hb,by simp at p⊢;omega⟩
  have aa:t<=100:=by
   rw[p];split
   ·omega
   ·split<;>omega
  obtain⟨ix,ld,P',R⟩:=e k x l hx g (Nw.refl _);have lx:=R.len g;have e0:(((t:Int)+(l.length:Int))<0)=False:=eq_false (by omega);simp(disch:=omega)only[vvB,a!,reduceCtorEq,↓reduceIte,JL,JK,JJ,L,f3,w,ix,ld,lx,e0];exact⟨qK2 w,qK2 I,t+l.length,by simp only[Fa,vvB,a!,reduceCtorEq,↓reduceIte,f0,L];exact⟨trivial,trivial,rfl,trivial⟩,rfl,by simpa using Z⟩
 ·intro t fr g m o;obtain⟨f0,L,f3,-⟩:=m;obtain⟨rfl,p⟩:=o;have p:t=a.length+b.length:=by simpa using p
  rw[p]at f3;exact⟨f0,f3,rfl⟩
 ·rintro fr g ⟨f0,f3,rfl⟩;obtain⟨r1,h1,e1,ac,c1⟩:=aD0 (h:=g) (n:=a.length+b.length) (by omega);simp only[vvB,reduceCtorEq,↓reduceIte,JH,Iy,f0,f3,e1,ll];refine Oc.then (dK (σ:=V) (n:=2) (pi:=27) (pn:=26) (pc:=28) [25,6] (λv=> [.slice i 0 2 (.kn 2),v]) (λk v g'=>Nw g g'/\Room g.next.nat lT g' v (if k=0 then [] else if k=1 then a else a++b) (if k=0 then a.length+b.length else if k=1 then b.length else 0))
   (A:=λfr g'=>∃v,fr.get (c! 6)=some v/\Nw g g'/\Room g.next.nat lT g' v (a++b) 0) (B:=λ_ _=>False) (s:=r1)
   (λfr h _ k e1 e2=>by simp only[vvB,Iw,e1,e2]) (λfr h k _ e1=>by simp(disch:=omega)only[vvB,Iq,e1]) (by decide) (by rw[dO];omega) (qK0) (qK1) (by simp only[Fa,vvB,a!,↓reduceIte,and_self]) ⟨c1,ac⟩ ?_ ?_) ?_ ?_
  ·intro k v fr g' hk y J m o;obtain⟨f,z,-⟩:=m;obtain⟨c,u⟩:=o;have step:∃(x:V) (l acc:List (List Nat)) (n:Nat),((k=0/\x=d/\l=a)\/(k=1/\x=vb/\l=b))/\Room g.next.nat lT g' v acc n/\l.length<=n/\acc++l=(if k+1=0 then [] else if k+1=1 then a else a++b)/\n - l.length=(if k+1=0 then a.length+b.length else if k+1=1 then b.length else 0):=by
    rcases(by omega:k=0\/k=1) with rfl|rfl
    ·exact⟨d,a,[],a.length+b.length,.inl ⟨rfl,rfl,rfl⟩,u,by omega,rfl,by simp⟩
    ·exact⟨vb,b,a,b.length,.inr ⟨rfl,rfl,rfl⟩,u,e! _,rfl,by simp⟩
   obtain⟨x,l,acc,n,hx,ab,S,C,W⟩:=step;obtain⟨ix,ld,P',R⟩:=e k x l hx g' c;obtain⟨v',g2,e2,G,c2⟩:=ab.app (c:=fF) (λ_=>rfl) R S;rw[C,W]at G;simp(disch:=omega)only[vvB,a!,reduceCtorEq,↓reduceIte,Iu,Ir,f,z,y,ix,ld,e2];exact⟨qK2 y,qK2 J,v',by simp only[Fa,vvB,a!,↓reduceIte,f,and_self],c.then c2 λj hj q=>by omega,by simpa using G⟩
  ·intro v fr g' m o;obtain⟨f,z,-⟩:=m;obtain⟨c,u⟩:=o;exact⟨v,z,c,u⟩
  ·rintro fr g' ⟨v,z,c,u⟩;simp only[vvB,Ip,z];exact aW.ret (qT0) ⟨u,c⟩
  ·intro fr g q;exact q.elim
 ·intro fr g q;exact q.elim
theorem Room.rws{m:Nat}{l:List (List Nat)}(r:Room m lT h v l 0):Rws (λj=>m<=j.nat) (flat fF) 1 h v l:=by
 rcases r with⟨rfl,-,rfl⟩|⟨i,rest,rfl,k,f,hi⟩
 ·exact Rws.aO _ _ _ _
 ·have f:rest= []:=z!.1 f;subst f;have o:l.map H++ []=(l.map fF).flatten:=by rw[v!];exact(LD (c:=H) l).symm
  rw[o]at k;exact(Kn.rws (c:=fF) (sz:=1) (cp:=.un 1) k (λ_=>rfl) (λ_ _ _ _ e=>by cases e;rfl)).mono (aK _) λj _ e=>by rw[e];exact hi
theorem aOW(x y:V)(c:x.cells= [x]/\gW x=true)(e:y.cells= [y]/\gW y=true)(t:TypeId)(h:Hp):bJ t [.aO,.aO] 2 [(0,1,x),(1,1,y)] h=D (.slice h.next 0 2 (.kn 2)) (h.new (O (N t true) [x,y])):=by
 unfold bJ;simp only[QF,c.1,c.2,e.1,e.2];rfl
theorem aFe{x:V}{t:TypeId}(c:x.cells= [x]/\gW x=true)(h:Hp):fO t x h=D (X h.next 0) (h.new (O (N t true) [x])):=by
 unfold fO;simp only[c.1,c.2]
theorem aw7(t:Rws P (flat fF) 1 h d a)(o:Rws Q (flat fF) 1 h vb b)(C:a.length<=100)(hb:b.length<=100):
  ∃r h',V8 [Y .u8 43,d,vb] h=D r h'/\Rws (λj=>h.next.nat<=j.nat) (flat fF) 1 h' r (a++b)/\Nw h h':=by
 obtain⟨f,p,k,E⟩:=mkW h (O (N tSS true) [vb]);have u:fO tSS vb h=D (X h.next 0) f:=by rw[p];exact aFe o.cell h
 have w:=E.ld (q:=0) (x:=vb) rfl;have s:=aOW d vb t.cell o.cell tSS f;obtain⟨m,c⟩:∃m,m=f.new (O (N tSS true) [d,vb]):=⟨_,rfl⟩
 rw[<-c]at s;have l:Nw f m:=by rw[c];exact Nw.new _ _
 have G:Kn m f.next (O (N tSS true) [d,vb]):=by rw[c];exact Kn.new _ _
 obtain⟨r,B,z,J,y⟩:=aw2 (t.nw (aK _) (k.trans l)) (o.nw (aK _) (k.trans l)) G C hb;have I:=(k.trans l).next;refine⟨r,B,?_,(Room.rws J).mono (aK _) λj _ e=>by omega,(k.trans l).trans y⟩;rw[awc];simp(disch:=omega)only[vvB,seval,agj,ajd,ajc,ajb,aja,u,w,s,z];simp only[aU,cO,vvB,seval,dn]
end
end Go.Proofs.Im
namespace Go.Vm
structure StInv (Inv:Nat->(Pos->Prop)->Hp->Prop):Prop where
 st:∀{k:Nat} {T S:Pos->Prop} {g g':Hp},Inv k T g->Ch S g g'->(∀j,T j->¬S j)->Inv k T g'
 lt:∀{k:Nat} {T:Pos->Prop} {g:Hp},Inv k T g->∀j,T j->j.nat<g.next.nat
end Go.Vm
namespace Go.Proofs.Im
section
variable{h h' g:Hp}{P T0:Pos->Prop}{v f:V}{l:List (Int×Int×Ml)}
theorem apn{Inv:Nat->(Pos->Prop)->Hp->Prop}(z:StInv Inv)(r:Rws P msE 10 h v l)(hP:∀j,P j->¬T0 j)(p:Int×Int×Ml->Bool)(hn:l.length<=1000)(i0:Inv 0 T0 h)
  (hf:∀k a cs g T,l[k]?=some a->Inv k T g->Ch T0 h g->(∀j,T j->T0 j\/h.next.nat<=j.nat)->(∃Q,msE Q g a cs)->∃g' d,dI iM f [.agg (V.ofList cs)] g=D (K (p a)) g'/\Inv (k+1) d g'/\Ch T g g'/\∀j,d j->T j\/g.next.nat<=j.nat):
  ∃h' d,jo [v,f] h=D (Y U (gy (l.findIdx? p))) h'/\Ch T0 h h'/\(∀j,d j->T0 j\/h.next.nat<=j.nat)/\Inv (match l.findIdx? p with|some t=>t+1|none=>l.length) d h':=by
 rw[AB]
 suffices T:aW i! [.tmp 4] (λr h'=>r=Y U (gy (l.findIdx? p))/\∃d,Ch T0 h h'/\(∀j,d j->T0 j\/h.next.nat<=j.nat)/\Inv (match l.findIdx? p with|some t=>t+1|none=>l.length) d h') (jT (T.set (some f) (c! 1) (T.set (some v) (c! 0) T.nil)) h) by
  obtain⟨r,h',e,rfl,d,c⟩:=T;exact⟨h',d,e,c⟩
 simp(disch:=omega)only[vvB,seval,jT,rW,rV,r.len,su];refine Oc.then (dK (σ:=Unit) (n:=l.length) (pi:=8) (pn:=7) (pc:=9) [0,1] (λ_=> [v,f]) (λk _ g=>∃T,Inv k T g/\Ch T0 h g/\(∀j,T j->T0 j\/h.next.nat<=j.nat)/\(l.take k).findIdx? p=none)
  (A:=λfr g=>∃T,Inv l.length T g/\Ch T0 h g/\(∀j,T j->T0 j\/h.next.nat<=j.nat)/\l.findIdx? p=none) (B:=λfr g=>fr.get (c! 4)=some (Y U (gy (l.findIdx? p)))/\∃T t,l.findIdx? p=some t/\Inv (t+1) T g/\Ch T0 h g/\∀j,T j->T0 j\/h.next.nat<=j.nat) (s:=())
  (λfr h _ k e1 e2=>by simp only[vvB,seval,rU,e1,e2]) (λfr h k _ e1=>by simp(disch:=omega)only[vvB,seval,rJ,e1]) (by decide) (by rw[dO];omega) (qK0) (qK0) (by simp only[Fa,vvB,seval,and_self]) ⟨T0,i0,Ch.refl _ _,λ_ q=>.inl q,by simp⟩ ?_ ?_) ?_ ?_
 ·intro k _ fr g hk E f7 L z;obtain⟨f0,f1,-⟩:=L;obtain⟨T,inv,c,m,b⟩:=z;obtain⟨x,C⟩:∃x,l[k]?=some x:=⟨_,b! hk⟩
  obtain⟨i,q,cs,e1,ex,hc,hi,-,-,S⟩:=(r.ch (P':=P) dD c λj _ q=>⟨q,hP j q⟩).elt C;obtain⟨g',d,W,u,M,G⟩:=hf k x cs g T C inv c m ⟨_,ex⟩;have J:Ch T0 h g':=c.trans M λj hj q=>(m j q).resolve_right (by omega);have aa:=c.next;have w:∀j,d j->T0 j\/h.next.nat<=j.nat:=λj q=>(G j q).elim (m j) λl=>.inr (by omega);have Z:=S g rfl;simp(disch:=omega)only[vvB,seval,rQ,rP,f0,f1,E,e1,Z,W];by_cases I:p x=true
  ·simp only[vvB,seval,I,rO];have o:=lY C b I;refine⟨?_,d,k,o,u,J,w⟩;simp only[vvB,seval];rw[o];rfl
  ·have y:p x=false:=by simpa using I
   simp only[vvB,seval,y];refine⟨qK2 E,qK2 f7,(),by simp only[Fa,vvB,seval,f0,f1,and_self],d,u,J,w,?_⟩;rw[H!,C];simp[List.findIdx?_append,b,y]
 ·intro _ fr g L z;obtain⟨T,inv,c,m,b⟩:=z;rw[j!]at b;exact⟨T,inv,c,m,b⟩
 ·rintro fr g ⟨T,inv,c,m,b⟩;simp only[vvB,seval,rH];exact aW.ret (qT0) ⟨by rw[b];rfl,T,c,m,by rw[b];exact inv⟩
 ·rintro fr g ⟨f4,T,t,o,inv,c,m⟩;exact aW.ret (qT1 f4) ⟨rfl,T,c,m,by rw[o];exact inv⟩
theorem aob{Inv:Nat->(Pos->Prop)->Hp->Prop}(hI:StInv Inv)(r:vO tMs 10 P msE h v l)(hP:∀j,P j->bC v≠some j/\¬T0 j/\j.nat<h.next.nat)(ah:∀j,bC v=some j->¬T0 j)(p:Int×Int×Ml->Bool)(hn:l.length<=1000)(i0:Inv 0 T0 h)
  (aE:∀k a cs g T,l[k]?=some a->Inv k T g->Ch (λj=>T0 j\/bC v=some j) h g->(∀j,T j->T0 j\/h.next.nat<=j.nat)->(∃Q,msE Q g a cs)->∃g' u,dI iM f [.agg (V.ofList cs)] g=D (K (p a)) g'/\Inv (k+1) u g'/\Ch T g g'/\∀j,u j->T j\/g.next.nat<=j.nat)
  (aL:∀k a cs g T,l[k]?=some a->Inv k T g->Ch (λj=>T0 j\/bC v=some j) h g->(∀j,T j->T0 j\/h.next.nat<=j.nat)->(∃Q,msE Q g a cs)->∃g' u,dI kY f [.agg (V.ofList cs)] g=D (K (p a)) g'/\Inv (k+1) u g'/\Ch T g g'/\∀j,u j->T j\/g.next.nat<=j.nat):
  ∃v' h' u,jc [v,f] h=D v' h'/\vO tMs 10 P msE h' v' (l.filter λa=>!p a)/\Ch (λj=>T0 j\/bC v=some j) h h'/\(∀j,bC v'=some j->bC v=some j)/\(∀j,u j->T0 j\/h.next.nat<=j.nat)/\Inv l.length u h':=by
 obtain⟨h1,T1,e1,c1,an,I⟩:=apn (f:=f) hI (r.rws dD) (λj q=>q.elim (λq=>(hP j q).2.1) (ah j)) p hn i0 (λk a cs g T hk inv cg y e=>aE k a cs g T hk inv (cg.mono λ_ _ q=>.inl q) y e);cases aa:l.findIdx? p with
 |none=>
  rw[aa]at e1 I;simp only[gy]at e1;have ap:l.filter (λa=>!p a)=l:=F!.2 λa ha=>by
   have:=List.findIdx?_eq_none_iff.1 aa a ha;simp[this]
  refine⟨v,h1,T1,?_,by rw[ap];exact r.ch dD c1 ah λj _ q=>⟨q,(hP j q).2.1⟩,c1.mono λ_ _ q=>.inl q,λ_ q=>q,an,I⟩;rw[lS];simp(disch:=omega)only[vvB,seval,iF,kD,kC,kz,qI,e1];simp only[aU,cO,vvB,seval,dn]
 |some t=>
  rw[aa]at e1 I;simp only[gy]at e1;obtain⟨ht,a0,aR⟩:=List.findIdx?_eq_some_iff_getElem.1 aa;have au:(l.take t).filter (λa=>!p a)=l.take t:=F!.2 λa ha=>by
   obtain⟨j,hj,e⟩:=D!.1 ha;rw[o!]at hj;have:=aR j (by omega);rw[List.getElem_take]at e;rw[e]at this;simpa using this
  obtain⟨al,a,hw,rr⟩:=r;rcases rr with⟨rfl,-⟩|⟨i,ff,rest,rfl,km⟩
  ·simp at ht
  have aD:=a.len;have ln:∀g,aZ 2 (.slice i 0 l.length (.un 10)) g=D (Y U (l.length:Int)) g:=λg=>rfl;have a3:l[t]?=some l[t]:=b! ht;have ar:¬T0 i:=ah i rfl;have a8:=km.2;have m1:=km.ch c1 ar;have a7:∀j,bC (V.slice i 0 l.length (.un 10))=some j->j=i:=λj e=>by cases e;rfl
  have am:∀j,P j->j≠i:=λj q e=>(hP j q).1 (by rw[e];rfl);have S:∀{T:Pos->Prop},(∀j,T j->T0 j\/h.next.nat<=j.nat)->¬T i:=λy q=>(y i q).elim ar λl=>by omega
  have az:∀{T:Pos->Prop},(∀j,T j->T0 j\/h.next.nat<=j.nat)->∀j,P j->¬T j:=λy j pj q=>(y j q).elim (hP j pj).2.1 λl=>by have:=(hP j pj).2.2;omega
  rw[lS]
  suffices T:aW i! [.tmp 4] (λv' h'=>∃u,vO tMs 10 P msE h' v' (l.filter λa=>!p a)/\Ch (λj=>T0 j\/bC (V.slice i 0 l.length (.un 10))=some j) h h'/\(∀j,bC v'=some j->bC (V.slice i 0 l.length (.un 10))=some j)/\(∀j,u j->T0 j\/h.next.nat<=j.nat)/\Inv l.length u h')
    (iF (T.set (some f) (c! 1) (T.set (some (.slice i 0 l.length (.un 10))) (c! 0) T.nil)) h) by
   obtain⟨v',h',e,u,q⟩:=T;exact⟨v',h',u,e,q⟩
  simp(disch:=omega)only[vvB,seval,iF,kD,kC,kz,qH,e1];refine Oc.then (dW (n:=l.length - (t+1)) (λm fr g=>∃(j:Nat) (ds:List (List V)) (T:Pos->Prop),fr.get (c! 0)=some (.slice i 0 l.length (.un 10))/\fr.get (c! 1)=some f/\fr.get (c! 5)=some (Y U ((((l.take j).filter λa=>!p a).length:Nat):Int))/\fr.get (c! 6)=some (Y U (j:Int))/\
    j+m=l.length/\((l.take j).filter λa=>!p a).length<j/\Kn g i (O (N tMs ff) (ds.flatten++rest))/\(∀d∈ds,d.length=10)/\ds.length=l.length/\
    All2 (msE P g) ((l.take j).filter λa=>!p a) (ds.take ((l.take j).filter λa=>!p a).length)/\All2 (msE P g) (l.drop j) (ds.drop j)/\Ch (λq=>T0 q\/q=i) h g/\(∀j,T j->T0 j\/h.next.nat<=j.nat)/\Inv j T g)
   (A:=λfr g=>∃(ds:List (List V)) (T:Pos->Prop),fr.get (c! 0)=some (.slice i 0 l.length (.un 10))/\fr.get (c! 5)=some (Y U (((l.filter λa=>!p a).length:Nat):Int))/\(l.filter λa=>!p a).length<l.length/\Kn g i (O (N tMs ff) (ds.flatten++rest))/\(∀d∈ds,d.length=10)/\ds.length=l.length/\
    All2 (msE P g) (l.filter λa=>!p a) (ds.take (l.filter λa=>!p a).length)/\Ch (λq=>T0 q\/q=i) h g/\(∀j,T j->T0 j\/h.next.nat<=j.nat)/\Inv l.length T g) (B:=λ_ _=>False) (by rw[dO];omega) ?_ ?_) ?_ ?_
  ·have ad:(l.take (t+1)).filter (λa=>!p a)=l.take t:=by
    rw[yC a3,au];simp[a0]
   have E:(l.take t).length=t:=by rw[o!];omega
   have a1:All2 (msE P h1) l al:=a.mono λ_ _ e=>dD e c1 λj _ q=>⟨q,(hP j q).2.1⟩
   exact⟨t+1,al,T1,qK0,qK0,by simp only[vvB,seval];rw[ad,E],qK1,by omega,by rw[ad,E];omega,m1,hw,aD,by rw[ad,E];exact a1.take t,a1.drop (t+1),c1.mono λ_ _ q=>.inl q,an,I⟩
  ·rintro m fr g ⟨j,ds,T,f0,f1,f5,f6,hj,ag,kg,o,W,x1,x2,cg,y,inv⟩;by_cases hz:m=0
   ·have aM:j=l.length:=by omega
    subst aM;rw[j!]at f5 ag x1;simp(disch:=omega)only[vvB,seval,iL,iK,f0,f6,ln];exact⟨rfl,ds,T,qK2 f0,qK2 f5,ag,kg,o,W,x1,cg,y,inv⟩
   ·have G:j<l.length:=by omega
    obtain⟨x,hx⟩:∃x,l[j]?=some x:=⟨_,b! G⟩
    obtain⟨c,hc⟩:∃c,ds[j]?=some c:=⟨_,b! (by omega)⟩
    have ex:msE P g x c:=by
     obtain⟨c',aq,e⟩:=x2.get (k:=0) (x:=x) (by rw[G!,n!];exact hx);rw[G!,n!,hc]at aq;cases aq;exact e
    have b:=o c (d! hc);have N1:=kg.aHf o hc;have I1:=λg=>lG (sz:=10) (i:=i) (c:=.un 10) G g;obtain⟨J,C⟩:∃J,J=g.new (O (N tMs true) c):=⟨_,rfl⟩
    have S2:aQ 10 (X g.next 0) (.agg (V.ofList c)) (g.new (O (N tMs true) zMs))=D V.undef J:=by
     rw[C];have:=ig (h:=g) (t:=tMs) (f:=true) (z:=zMs) (l:=V.ofList c) (n:=10) (V.dG _) (by rw[V.bW];exact b) rfl;rw[V.bW]at this;exact this
    have M:Nw g J:=by rw[C];exact Nw.new _ _
    have k2:Kn J g.next (O (N tMs true) c):=by rw[C];exact Kn.new _ _
    have ax:msE P J x c:=dD ex M λj _ q=>⟨q,λq=>q⟩
    have av:=hI.st inv M λ_ _ q=>q;have ao:=hI.lt inv;have a5:=cg.next;have a4:=M.next;obtain⟨g3,u,e3,ab,c3,ay⟩:=aL j x c J T hx av ((cg.nw M).mono λj _ e=>e.imp id λe=>by rw[e];rfl) y ⟨_,ax⟩;have ac:∀j,u j->T0 j\/h.next.nat<=j.nat:=λj q=>(ay j q).elim (y j) λl=>.inr (by omega);have N2:=k2.ldN b;have N3:=(k2.ch c3 λq=>by have:=ao _ q;omega).ldN b;have ai:=(kg.nw M).ch c3 (S y);have aj:∀{a cs},msE P g a cs->msE P g3 a cs:=λe=>dD (dD e M λj _ q=>⟨q,λq=>q⟩) c3 λj _ q=>⟨q,az y j q⟩
    have a6:l.drop j=x::l.drop (j+1):=by rw[y! G];rw[b! G]at hx;cases hx;rfl
    have aw:All2 (msE P g) (l.drop (j+1)) (ds.drop (j+1)):=by
     have:=x2.drop 1;rwa[L!,L!]at this
    cases hp:p x with
    |false=>
     rw[hp]at e3;obtain⟨s,Z⟩:∃s,s=((l.take j).filter λa=>!p a).length:=⟨_,rfl⟩
     rw[<-Z]at f5 ag x1;have I2:=λg=>lG (sz:=10) (i:=i) (c:=.un 10) (show s<l.length by omega) g;obtain⟨g4,af⟩:∃g4,g4=g3.put i (some (O (N tMs ff) ((ds.set s c).flatten++rest))):=⟨_,rfl⟩
     have S4:aQ 10 (X i (s*10)) (.agg (V.ofList c)) g3=D V.undef g4:=by rw[af];exact ai.aG7 o (by omega) b
     have c4:Ch (λq=>q=i) g3 g4:=by rw[af];exact Ch.put _ _ rfl
     have ak:∀{a cs},msE P g a cs->msE P g4 a cs:=λe=>dD (aj e) c4 λj _ q=>⟨q,am j q⟩
     simp(disch:=omega)only[vvB,seval,iL,iK,jZ,jY,qG,pX,ku,f0,f1,f5,f6,ln,I1,N1,S2,N2,e3,N3,I2,S4];have L:(l.take (j+1)).filter (λa=>!p a)=(l.take j).filter (λa=>!p a)++ [x]:=by rw[yC hx];simp[hp]
     have ae:((l.take (j+1)).filter λa=>!p a).length=s+1:=by rw[L,r!,<-Z];rfl
     refine⟨m - 1,by omega,j+1,ds.set s c,u,qK2 f0,qK2 f1,by simp only[vvB,seval];rw[ae];rfl,qK1,by omega,by rw[ae];omega,by rw[af];exact ai.put _,?_,by rw[u!];exact W,?_,?_,?_,ac,hI.st ab c4 λq tq e=>S ac (e▸tq)⟩
     ·intro d hd;rcases List.mem_or_eq_of_mem_set hd with q|q
      ·exact o d q
      ·rw[q];exact b
     ·have a2:(ds.set s c).take (s+1)=ds.take s++ [c]:=by
       rw[H!,g! (by omega),List.take_set_of_le (e! _)];rfl
      rw[ae,L,a2];exact(x1.mono λ_ _ e=>ak e).append (.cons (ak ex) .nil)
     ·rw[List.drop_set_of_lt (by omega)];exact aw.mono λ_ _ e=>ak e
     ·exact((cg.nw M).trans c3 λj hj q=>.inl ((y j q).resolve_right (by omega))).trans c4 λ_ _ q=>.inr q
    |true=>
     rw[hp]at e3;simp(disch:=omega)only[vvB,seval,iL,iK,jZ,jY,ku,f0,f1,f6,ln,I1,N1,S2,N2,e3];have L:(l.take (j+1)).filter (λa=>!p a)=(l.take j).filter (λa=>!p a):=by rw[yC hx];simp[hp]
     exact⟨m - 1,by omega,j+1,ds,u,qK2 f0,qK2 f1,by simp only[vvB,seval,f5];rw[L],qK1,by omega,by rw[L];omega,ai,o,W,by rw[L];exact x1.mono λ_ _ e=>aj e,aw.mono λ_ _ e=>aj e,(cg.nw M).trans c3 λj hj q=>.inl ((y j q).resolve_right (by omega)),ac,ab⟩
  ·rintro fr g ⟨ds,T,f0,f5,E,kg,o,W,x1,cg,y,inv⟩;obtain⟨s,Z⟩:∃s,s=(l.filter λa=>!p a).length:=⟨_,rfl⟩
   rw[<-Z]at f5 E x1;have s1:=aCj (im:=i) (w:=10) E g;have z1:=aqw (zs:=zMs) (m:=s) kg o (by omega) rfl;rw[W]at z1;obtain⟨J,C⟩:∃J,J=g.put i (some (O (N tMs ff) ((ds.take s).flatten++(times (l.length - s) zMs++rest)))):=⟨_,rfl⟩
   rw[<-C]at z1;have M:Ch (λq=>q=i) g J:=by rw[C];exact Ch.put _ _ rfl
   have k2:Kn J i (O (N tMs ff) ((ds.take s).flatten++(times (l.length - s) zMs++rest))):=by rw[C];exact kg.put _
   have s2:=asD (im:=i) (w:=10) (Nat.le_of_lt E) J;simp only[vvB,seval,pW,pV,f0,f5,s1,z1,s2];refine aW.ret (qT0) ⟨T,⟨ds.take s,x1.mono λ_ _ e=>dD e M λj _ q=>⟨q,am j q⟩,λc hc=>o c (List.mem_of_mem_take hc),.inr ⟨i,ff,_,by rw[<-Z],k2⟩⟩,(cg.trans M λ_ _ q=>.inr q).mono λj _ e=>e.imp id λe=>by rw[e];rfl,λj e=>by cases e;rfl,y,hI.st inv M λq tq e=>S y (e▸tq)⟩
  ·intro fr g q;exact q.elim
end
end Go.Proofs.Im
namespace Go.Vm
section
variable{h g:Hp}{P:Pos->Prop}{α:Type}
theorem All2.aCt{P:Pos->Prop}{c:α->List V}:∀l:List α,All2 (Go.Vm.flat c P h) l (l.map c)
 | []=>.nil
 |a::l=>.cons rfl (All2.aCt l)
theorem dA.aO0{b bt:Nat}{c:α->V}{el:TypeId}{v x:V}{l:List α}{y:α}(r:dA b (λ_=>False) (flat λa=> [c a]) el 1 g v l)(R:Rws P (flat λa=> [c a]) 1 g x [y])(hb:b<=g.next.nat)(hs:(l.length+1)*bt<=140737488355328):
  ∃v' g',bK el 1 bt v x g=D v' g'/\dA b (λ_=>False) (flat λa=> [c a]) el 1 g' v' (l++ [y])/\Ch (λj=>bC v=some j) g g'/\∀j,bC v'=some j->g.next.nat<=j.nat:=by
 obtain⟨ab,a,hw,s,-,-⟩:=R;obtain rfl:=a.flat;have p:Sl g.next.nat g 1 x 1 [c y]:=s;obtain⟨aa,a2,ad,s2⟩:=r;obtain rfl:=a2.flat;have hf:(l.map λa=> [c a]).flatten=l.map c:=LD l;rw[hf]at s2;have o:∀J:Hp,J.next=g.next->dA b (λ_=>False) (flat λa=> [c a]) el 1 (J.new (O (N el false) (l.map c++ [c y]))) (.slice g.next 0 (l.length+1) (.un 1)) (l++ [y]):=λJ e=>by
  refine⟨(l++ [y]).map λa=> [c a],?_,λd hd=>?_,?_,.inr ⟨g.next,by rw[r!];rfl,hb,by rw[bI,e];omega,false,?_⟩⟩
  ·exact All2.aCt _
  ·obtain⟨_,_,rfl⟩:=M!.1 hd;rfl
  ·rw[LD,l!];simp
  ·rw[<-e,dX,LD,t!];rfl
 rcases s2.is with⟨h0,rfl⟩|⟨i,rfl,ac,hi,f,hg⟩
 ·obtain rfl:l= []:=z!.1 h0;have M:bK el 1 bt .aO x g=kM el 1 bt 1 [c y] g g:=p.src _;rw[M,lU (by simpa using hs)];exact⟨_,_,rfl,o g rfl,Ch.new _ _ _,λj e=>by cases e;exact e! _⟩
 ·have W:(l.map c).length=l.length:=l! _;have M:bK el 1 bt (.slice i 0 l.length (.un 1)) x g=kM el 1 bt (l.length+1) (l.map c++ [c y]) g (g.put i none):=by
   have e1:bK el 1 bt (.slice i 0 l.length (.un 1)) x g=dQ g i λwr cs=>fA (l.length+(0+1)) λk=>(match wr,N! 1 1 with
     |N t f,true=>(match N! t el with
      |true=>(match gQ (l.length*1) (eP 0 cs) with
       |none=>R.bad
       |some old=>(match eP (l.length*1) (eP 0 cs) with
        | []=>kM el 1 bt k (old++ [c y]) g (g.put i none)
        |_::_=>(match jh (0+l.length*1) [c y] cs with
         |some I=>D (.slice i 0 k (.un 1)) (g.put i (some (O (N t f) I)))
         |none=>.bad)))
      |false=>.bad)
     | .ro,true=>aBt 1 bt i 0 l.length k [c y] cs g
     |_,_=>.bad):=p.src _
   rw[e1,dL (wr:=N el f) (all:=l.map c) (by rw[hg];rfl)];have Z:gQ (l.length*1) (eP 0 (l.map c))=some (l.map c):=by
    rw[q!];exact qw (λf _=>by rw[A!]) W
   have Q:eP (l.length*1) (eP 0 (l.map c))= []:=by
    rw[jb,jb,w!,q!,p! (by omega)]
   simp only[dF,B!,Z,Q]
  rw[M,lU (by omega)];refine⟨_,_,rfl,o (g.put i none) (jI _ _ _),?_,λj e=>by cases e;exact e! _⟩;exact(Ch.put (S:=λj=>bC (V.slice i 0 l.length (.un 1))=some j) g none rfl).trans (Ch.new (λ_=>False) _ _) λ_ _ q=>q.elim
end
end Go.Vm
namespace Go.Proofs.Im
section
variable{h h' g:Hp}{P:Pos->Prop}{ir pb pn m z:Pos}{uid limit:Bool}{v u vk vs:V}{L:List V}{l:List (Int×Int×Ml)}{n:Int}{b:Nat}{w:List Int}{E C G B:Wr}{tl:TypeId}{f:Bool}
def iD(limit:Bool)(n:Int)(x:Int×Int×Ml):Bool:=limit&&decide (x.2.2.mod>n)
theorem aN9(y:Int):eu fZ [(Y U 0)] 1 [(0,1,iV y)]=some (O (N fZ true) (fH y),λp=>.slice p 0 1 (.kn 1)):=(rfl)
theorem aw5{x:Int×Int×Ml}(kb:Kn g pb (O E [K limit]))(kn:Kn g pn (O C [iV n]))(kl:Kn g m (O (N tl f) [u]))(kr:Kn g z (O G [X ir 0]))(k:Kn g ir (O B L))(h4:L[4]?=some (K uid))
  (o:dA b (λ_=>False) (flat fH) fZ 1 g u w) (hb:b<=g.next.nat) (ah:w.length<=1000) (ac:bC u≠some m):
  ∃g' d,qj [.agg (V.ofList (msC x vk vs)),X pb 0,X pn 0,X m 0,X z 0] g=D (K (iD limit n x)) g'/\Kn g' m (O (N tl f) [d])/\dA b (λ_=>False) (flat fH) fZ 1 g' d (if iD limit n x=true then w++ [nH uid x] else w)/\
   Ch (λj=>j=m\/bC u=some j) g g'/\(∀j,bC d=some j->bC u=some j\/g.next.nat<=j.nat)/\bC d≠some m:=by
 obtain⟨r,J,t,k1⟩:=mkW g (O (N tMs true) (msC x vk vs));have B1:=(kb.nw t).ld (q:=0) (x:=K limit) rfl;have N1:=(kn.nw t).ld (q:=0) (x:=iV n) rfl;have M1:=k1.ld (q:=8) (x:=iV x.2.2.mod) rfl;have ak:=kl.2;have n1:=t.next;rw[apR];by_cases y:iD limit n x=true
 ·rw[y,if_pos rfl];unfold iD at y;rw[Bool.and_eq_true,decide_eq_true_eq]at y;obtain⟨rfl,af⟩:=y;have eG:(x.2.2.mod>n)=True:=eq_true af;have P1:=((kr.nw t).bump 1).ld (q:=0) (x:=X ir 0) rfl;have X1:=(k1.bump 1).ldN (n:=10) rfl;have E1:=ahS (vk:=vk) (vs:=vs) (x:=x) ((k.nw t).bump 1) h4;obtain⟨Z,Q⟩:∃Z,Z=(aH 1 r).new (O (N tMs true) (msC x vk vs)):=⟨_,rfl⟩
  rw[<-Q]at E1;have c3:Nw (aH 1 r) Z:=by rw[Q];exact Nw.new _ _
  have aa:Nw r Z:=(Nw.bump 1 r).trans c3;have ad:=((kl.nw t).bump 1).ld (q:=0) (x:=u) rfl;have ae:=(kl.nw (t.trans aa)).ld (q:=0) (x:=u) rfl;have ag:u.noF=true:=by
   rcases o with⟨ai,a,hw,s⟩
   rcases s.is with⟨_,rfl⟩|⟨i,rfl,_⟩<;>rfl
  have cC:∀{k:Out},chk (λh=>aF (X m 0) h) u k 1 [aH 1 r]=k:=uS ag ad;obtain⟨p,W⟩:∃p,p=Z.put r.next (some (O (N fZ true) [iV (nH uid x)])):=⟨_,rfl⟩
  have aj:Z.next.nat=r.next.nat+2:=by rw[Q,bI,xg]
  have c4:Nw g p:=by rw[W];exact(t.trans aa).put (by omega) _
  have k4:Kn p r.next (O (N fZ true) ([nH uid x].map fH).flatten):=by rw[W];exact⟨kL _ _ _,by rw[jI];omega⟩
  have r4:Rws (λj=>j=r.next) (flat fH) 1 p (.slice r.next 0 1 (.kn 1)) [nH uid x]:=Kn.rws (c:=fH) (l:= [nH uid x]) (cp:=.kn 1) (sz:=1) k4 (λ_=>rfl) (λ_ _ _ _ e=>by cases e;exact e! _);have n4:=c4.next;obtain⟨d,g5,e5,o5,c5,i5⟩:=(o.nw (aK _) c4).aO0 (bt:=8) r4 (by omega) (by omega);have e5:bK fZ 1 8 u (.slice r.next 0 1 (.kn 1)) p=D d g5:=e5;have k5:=(kl.nw c4).ch c5 λe=>ac e;have n5:=c5.next;obtain⟨g6,M⟩:∃g6,g6=g5.put m (some (O (N tl f) [d])):=⟨_,rfl⟩
  have I:d.cells= [d]/\gW d=true:=o5.cell;have S6:aQ 1 (X m 0) d g5=D V.undef g6:=by rw[M];exact k5.st I (by simp)
  have c6:Ch (λj=>j=m) g5 g6:=by rw[M];exact Ch.put _ _ rfl
  have ab:bC d≠some m:=λe=>by have:=i5 _ e;omega
  refine⟨g6,d,?_,by rw[M];exact k5.put _,o5.ch (aK _) c6 (λj e q=>ab (q▸e)) λ_ _ q=>q.elim,((c4.ch (S:=λj=>j=m\/bC u=some j)).trans c5 λ_ _ q=>.inr q).trans c6 λ_ _ q=>.inl q,λj e=>.inr (by have:=i5 j e;omega),ab⟩;simp(disch:=omega)only[vvB,seval,Dq,DZ,DY,DX,adg,DW,V.bW,<-J,B1,N1,M1,eG,P1,X1,E1,ae,cC,<-W,e5,S6];simp only[aU,cO,vvB,seval,dn]
 ·rw[if_neg y];have y:iD limit n x=false:=by simpa using y
  rw[y];refine⟨r,u,?_,kl.nw t,o.nw (aK _) t,t.ch,λj e=>.inl e,ac⟩;cases limit with
  |false=>
   simp(disch:=omega)only[vvB,seval,Dq,DZ,DY,DX,DW,V.bW,<-J,B1];simp only[aU,cO,vvB,seval,dn]
  |true=>
   have eG:(x.2.2.mod>n)=False:=by
    unfold iD at y;simp only[Bool.true_and,decide_eq_false_iff_not]at y;exact eq_false y
   simp(disch:=omega)only[vvB,seval,Dq,DZ,DY,DX,DW,V.bW,<-J,B1,N1,M1,eG];simp only[aU,cO,vvB,seval,dn]
def ar0(b:Nat)(m:Pos)(tl:TypeId)(f uid limit:Bool)(n:Int)(l:List (Int×Int×Ml))(k:Nat)(T:Pos->Prop)(g:Hp):Prop:=
 ∃u,Kn g m (O (N tl f) [u])/\dA b (λ_=>False) (flat fH) fZ 1 g u (((l.take k).filter (iD limit n)).map (nH uid))/\bC u≠some m/\b<=g.next.nat/\T=λj=>j=m\/bC u=some j
theorem aFq:StInv (ar0 b m tl f uid limit n l) where
 st:=λ{k T S g g'} i c p=>by
  obtain⟨u,d,o,a,hb,rfl⟩:=i;exact⟨u,d.ch c (p _ (.inl rfl)),o.ch (aK _) c (λj e=>p j (.inr e)) λ_ _ q=>q.elim,a,by have:=c.next;omega,rfl⟩
 lt:=λ{k T g} i j t=>by
  obtain⟨u,d,o,a,hb,rfl⟩:=i;rcases t with rfl|t
  ·exact d.2
  ·exact(o.eY t).2
theorem awN(a c d e:Pos)(x:V)(g:Hp):dI iM (.func (.func Gf) .nil (.cons (X a 0) (.cons (X c 0) (.cons (X d 0) (.cons (X e 0) .nil))))) [x] g=qj [x,X a 0,X c 0,X d 0,X e 0] g:=(rfl)
theorem awM(a c d e:Pos)(x:V)(g:Hp):dI kY (.func (.func Gf) .nil (.cons (X a 0) (.cons (X c 0) (.cons (X d 0) (.cons (X e 0) .nil))))) [x] g=qj [x,X a 0,X c 0,X d 0,X e 0] g:=(rfl)
theorem awX(r:vO tMs 10 P msE h v l)(W:∀j,P j->bC v≠some j/\j≠m/\j.nat<h.next.nat)(d:∀j,bC v=some j->j≠m/\j≠pb/\j≠pn/\j≠z/\j≠ir)(hn:l.length<=1000)
  (kb:Kn h pb (O E [K limit])) (kn:Kn h pn (O C [iV n])) (kl:Kn h m (O (N tl f) [.aO])) (kr:Kn h z (O G [X ir 0])) (k:Kn h ir (O B L)) (h4:L[4]?=some (K uid)) (hd:pb≠m/\pn≠m/\z≠m/\ir≠m):
  ∃I h' u,jc [v,.func (.func Gf) .nil (.cons (X pb 0) (.cons (X pn 0) (.cons (X m 0) (.cons (X z 0) .nil))))] h=D I h'/\vO tMs 10 P msE h' I (l.filter λa=>!iD limit n a)/\Ch (λj=>j=m\/bC v=some j) h h'/\(∀j,bC I=some j->bC v=some j)/\
   Kn h' m (O (N tl f) [u])/\dA h.next.nat (λ_=>False) (flat fH) fZ 1 h' u ((l.filter (iD limit n)).map (nH uid))/\bC u≠some m:=by
 have c:∀(k:Nat) (a:Int×Int×Ml) (cs:List V) (g:Hp) (T:Pos->Prop),l[k]?=some a->ar0 h.next.nat m tl f uid limit n l k T g->Ch (λj=>j=m\/bC v=some j) h g->(∃Q,msE Q g a cs)->
   ∃g' S,qj [.agg (V.ofList cs),X pb 0,X pn 0,X m 0,X z 0] g=D (K (iD limit n a)) g'/\ar0 h.next.nat m tl f uid limit n l (k+1) S g'/\Ch T g g'/\∀j,S j->T j\/g.next.nat<=j.nat:=by
  rintro J a cs g T s ⟨u,k1,o,p,hb,rfl⟩ i ⟨Q,vk,vs,rfl,-,-⟩;have y:(((l.take J).filter (iD limit n)).map (nH uid)).length<=1000:=by
   have h1:=List.length_filter_le (iD limit n) (l.take J);rw[o!]at h1;rw[l!];omega
  obtain⟨g',aa,e,k2,M,c2,i2,n2⟩:=aw5 (x:=a) (vk:=vk) (vs:=vs) (kb.ch i λe=>e.elim hd.1 λe=>(d _ e).2.1 rfl) (kn.ch i λe=>e.elim hd.2.1 λe=>(d _ e).2.2.1 rfl) k1 (kr.ch i λe=>e.elim hd.2.2.1 λe=>(d _ e).2.2.2.1 rfl) (k.ch i λe=>e.elim hd.2.2.2 λe=>(d _ e).2.2.2.2 rfl) h4 o hb y p;refine⟨g',_,e,⟨aa,k2,?_,n2,by have:=c2.next;omega,rfl⟩,c2,λj t=>t.elim (λt=>.inl (.inl t)) λt=>(i2 j t).imp .inr id⟩;have Z:(l.take (J+1)).filter (iD limit n)=(l.take J).filter (iD limit n)++(if iD limit n a=true then [a] else []):=by
   rw[Go.Vm.take_snoc s,List.filter_append];congr 1;rw[List.filter_cons,List.filter_nil]
  rw[Z,t!];cases ha:iD limit n a
  ·rw[ha]at M;simpa using M
  ·rw[ha]at M;simpa using M
 have i0:ar0 h.next.nat m tl f uid limit n l 0 (λj=>j=m) h:=⟨.aO,kl,dA.nil _ _ _ _ _ _,λe=>(by cases e),e! _,by funext j;simp[bC]⟩
 obtain⟨I,h',S,e,r',c',i',-,inv⟩:=aob (T0:=λj=>j=m) aFq r (λj q=>⟨(W j q).1,(W j q).2.1,(W j q).2.2⟩) (λj q=>(d j q).1) (iD limit n) hn i0
  (λk a cs g T s inv i _ e=>by rw[awN];exact c k a cs g T s inv i e)
  (λk a cs g T s inv i _ e=>by rw[awM];exact c k a cs g T s inv i e)
 obtain⟨u,k1,o,p,hb,-⟩:=inv;rw[j!]at o;exact⟨I,h',u,e,r',c',i',k1,o,p⟩
end
end Go.Proofs.Im
namespace Go.Im
inductive Goes (R:Acc->Int×Int×Ml->Acc->Prop):Acc->List (Int×Int×Ml)->Acc->Prop
 |nil (A:Acc):Goes R A [] A
 |cons {A B C:Acc} {x:Int×Int×Ml} {l:List (Int×Int×Ml)}:R A x B->Goes R B l C->Goes R A (x::l) C
end Go.Im
namespace Go.Proofs.Im
section
variable{h h' g:Hp}{P F I S M W Q:Pos->Prop}{ps pl ib p ir pc qs pl2 o aa Z:Pos}{A B C:Acc}{cb w:Cap}{fb d only:Bool}{v vm vl E J f kv:V}{l:List (Int×Int×Ml)}{L:List V}{kw:List (List Nat)}{k:Nat}{m:Ml}{x:Int×Int×Ml}{cs:List V}{w1 w2:Wr}
theorem aBD{R:Acc->Int×Int×Ml->Acc->Prop}(a:dJ h F ps A pl ib cb fb vm vl I)(hA:A.Small)(r:Rws P msE 10 h v l)(hn:l.length<=1000)(ds:Goes R A l C)(ax:C.Small){wr:Wr}(kr:Kn h ir (O wr L))(ap:L[1]?=some (X ps 0))
  (hf:∀(B C':Acc) (a:Int×Int×Ml) (cs:List V) (g:Hp) (qs pl2 o:Pos) (M W:Pos->Prop) (w:Cap) (d:Bool) (E J:V),a∈l->R B a C'->dJ g M qs B pl2 o w d E J W->Nw h g->(∀j,M j->h.next.nat<=j.nat)->(∃Q,msE Q g a cs)->
   ∃g3 F3 am al I3,dI af5 f [X qs 0,.agg (V.ofList cs)] g=D (iV 0) g3/\dJ g3 F3 qs C' pl2 o w d am al I3/\Ch M g g3/\∀j,F3 j->M j\/g.next.nat<=j.nat):
  ∃h' F' ac ab y G ae ad I',Wi [X ir 0,v,f] h=D (iV 0) h'/\dJ h' F' ps C ac ab y G ae ad I'/\Ch (λj=>j=ps) h h'/\∀j,F' j->j=ps\/h.next.nat<=j.nat:=by
 obtain⟨h1,qs,F1,aD,az,ar,aw,aL,aE,I1,e1,b1,c1,f1⟩:=aqE a hA;have R0:=kr.ld ap;have n1:=c1.next;rw[awe]
 suffices T:aW i! [.tmp 6] (λr h'=>r=iV 0/\∃F' ac ab y G ae ad I',dJ h' F' ps C ac ab y G ae ad I'/\Ch (λj=>j=ps) h h'/\∀j,F' j->j=ps\/h.next.nat<=j.nat)
   (VQ (T.set (some f) (c! 2) (T.set (some v) (c! 1) (T.set (some (X ir 0)) (c! 0) T.nil))) h) by
  obtain⟨r,h',e,rfl,F',ac,ab,y,G,ae,ad,I',q⟩:=T;exact⟨h',F',ac,ab,y,G,ae,ad,I',e,q⟩
 simp only[vvB,seval,VQ,ajs,ajr,ajq,R0,e1,r.len];refine Oc.then (dK (σ:=Unit) (n:=l.length) (pi:=18) (pn:=17) (pc:=19) [0,1,2,7,16] (λ_=> [X ir 0,v,f,X qs 0,v]) (λk _ g=>Nw h g/\∃B M pl2 o w d E J W,dJ g M qs B pl2 o w d E J W/\(∀j,M j->h.next.nat<=j.nat)/\Goes R B (l.drop k) C)
  (A:=λfr g=>fr.get (c! 0)=some (X ir 0)/\fr.get (c! 7)=some (X qs 0)/\Nw h g/\∃M pl2 o w d E J W,dJ g M qs C pl2 o w d E J W) (B:=λfr g=>False) (s:=())
  (λfr h _ k e1 e2=>by simp only[vvB,seval,ajp,e1,e2]) (λfr h k _ e1=>by simp(disch:=omega)only[vvB,seval,ajl,e1]) (by decide) (by rw[dO];omega) (qK0) (qK0) (by simp only[Fa,vvB,seval,and_self]) ⟨c1,A,F1,aD,az,ar,aw,aL,aE,I1,b1,f1,by simpa using ds⟩ ?_ ?_) ?_ ?_
 ·intro k _ fr g hk ao av fa hI;obtain⟨f0,an,f2,f7,ai,-⟩:=fa;obtain⟨c,B,M,pl2,o,w,d,E,J,W,b,ag,af⟩:=hI;obtain⟨x,hx⟩:∃x,l[k]?=some x:=⟨_,b! hk⟩
  have ay:l.drop k=x::l.drop (k+1):=by rw[y! hk];rw[b! hk]at hx;cases hx;rfl
  rw[ay]at af;obtain⟨i,q,cs,e2,ex,aq,-,-,-,e3⟩:=(r.nw dD c).elt hx;have au:=e3 g rfl;obtain⟨g2,aj⟩:∃g2,g2=g.new (O (N tMs true) cs):=⟨_,rfl⟩
  have S2:aQ 10 (X g.next 0) (.agg (V.ofList cs)) (g.new (O (N tMs true) zMs))=D V.undef g2:=by
   rw[aj];have:=ig (h:=g) (t:=tMs) (f:=true) (z:=zMs) (l:=V.ofList cs) (n:=10) (V.dG _) (by rw[V.bW];exact aq) rfl;rw[V.bW]at this;exact this
  have c2:Nw g g2:=by rw[aj];exact Nw.new _ _
  have k2:Kn g2 g.next (O (N tMs true) cs):=by rw[aj];exact Kn.new _ _
  have N2:=k2.ldN aq;have ah:=c.trans c2;cases af with
  |cons h1 ak=>
   obtain⟨g3,F3,am,al,I3,e4,b3,c3,f3⟩:=hf _ _ x cs g2 qs pl2 o M W w d E J (d! hx) h1 (b.nw c2) ah ag ⟨_,dD ex c2 λj _ q=>⟨q,λq=>q⟩⟩;have n2:=ah.next;simp(disch:=omega)only[vvB,seval,ajo,ajn,ajm,f2,f7,ai,ao,e2,au,S2,N2,e4];refine⟨qK2 ao,qK2 av,(),by simp only[Fa,vvB,seval,f0,an,f2,f7,ai,and_self],ah.then c3 λj hj q=>by have:=ag j q;omega,_,F3,pl2,o,w,d,am,al,I3,b3,λj q=>(f3 j q).elim (ag j) λl=>by omega,ak⟩
 ·intro _ fr g fa hI;obtain⟨f0,an,f2,f7,ai,-⟩:=fa;obtain⟨c,B,M,pl2,o,w,d,E,J,W,b,ag,af⟩:=hI;rw[List.drop_length]at af;cases af;exact⟨f0,f7,c,M,pl2,o,w,d,E,J,W,b⟩
 ·rintro fr g ⟨f0,f7,c,M,pl2,o,w,d,E,J,W,b⟩;have R1:=(kr.nw c).ld ap;obtain⟨u,g2,F',ac,ab,y,G,ae,ad,I',e5,a5,c5,f5⟩:=aGx (a.nw c) b ax;have hn:=c.next;simp only[vvB,seval,ajk,afO,f0,f7,R1,e5];exact aW.ret (qT0) ⟨rfl,F',ac,ab,y,G,ae,ad,I',a5,c.ch.trans c5 λ_ _ q=>q,λj q=>(f5 j q).imp id λl=>by omega⟩
 ·intro fr g q;exact q.elim
structure KGood (A:Acc) (kw:List (List Nat)) (x:Int×Int×Ml) (k:Nat) (m:Ml):Prop where
 small:A.Small
 logged:A.Logged
 at_:A.mails[k]?=some m
 find:A.mails.findIdx? (λy=>decide (y.id=m.id))=some k
 id:m.id=x.2.2.id
 inn:m.In A
 right:∀s∈x.2.2.keys++kw,XL s=true
 one:(x.2.2.keys++kw).length<=1
 ne:x.2.2.keys++kw≠m.keys
 ents:A.ents.length<=8000
 clock:A.clock<900000
def aG9(kw:List (List Nat))(A:Acc)(x:Int×Int×Ml)(B:Acc):Prop:=∃k m,KGood A kw x k m/\B=UZ A k m (x.2.2.keys++kw)
theorem aru(a:dJ g M qs B pl2 o w d E J W)(ex:msE Q g x cs)(ks:Kn g aa (O w1 [Y .u8 43]))(kk:Kn g Z (O w2 [kv]))(rk:Rws P (flat fF) 1 g kv kw)(hk:x.2.2.keys.length<=100/\kw.length<=100)(G:KGood B kw x k m):
  ∃i n c s,Dy [X qs 0,.agg (V.ofList cs),X aa 0,X Z 0] g=D (iV 0) i/\dJ i n qs (UZ B k m (x.2.2.keys++kw)) pl2 o w d E c s/\Ch M g i/\∀j,n j->M j\/g.next.nat<=j.nat:=by
 obtain⟨vk,vs,rfl,rx,-⟩:=ex;obtain⟨g1,u,e,y⟩:=mkW g (O (N tMs true) (msC x vk vs));have X6:=y.ld (q:=6) (x:=vk) rfl;have X2:=y.ld (q:=2) (x:=iV x.2.2.id) rfl;have S1:=(ks.nw e).ld (q:=0) (x:=Y .u8 43) rfl;have K1:=(kk.nw e).ld (q:=0) (x:=kv) rfl;obtain⟨r,g2,e2,r2,z⟩:=aw7 (rx.nw (aK _) e) (rk.nw (aK _) e) hk.1 hk.2;have t:=(y.nw z).ld (q:=2) (x:=iV x.2.2.id) rfl;have cC:∀{k:Out},chk (λh=>aF (X g.next 2) h) (iV x.2.2.id) k 1 [g1]=k:=uS rfl X2;have b:=e.trans z;obtain⟨i,n,c,s,e3,a3,c3,f3⟩:=aDX (a.nw b) G.small G.logged G.at_ G.find G.inn r2 G.right G.one G.ne G.ents G.clock;rw[G.id]at e3;have ab:=b.next;refine⟨i,n,c,s,?_,a3,(b.ch (S:=M)).trans c3 λ_ _ q=>q,λj q=>(f3 j q).imp id λl=>by omega⟩;rw[apQ];simp(disch:=omega)only[vvB,seval,Xp,adf,ade,V.bW,<-u,S1,X6,K1,e2,t,cC,e3];simp only[aU,cO,vvB,seval,dn]
theorem aBl(p q:Pos)(s x:V)(g:Hp):dI af5 (.func (.func P9) .nil (.cons (X p 0) (.cons (X q 0) .nil))) [s,x] g=Dy [s,x,X p 0,X q 0] g:=(rfl)
end
end Go.Proofs.Im
namespace Go.Im
def sW(now l:List (Int×Int×Ml)):List (Int×Int×Ml):=l.filterMap λx=>now.find? λy=>decide (y.1=x.1)
theorem awF{now l:List (Int×Int×Ml)}{k:Nat}{x y:Int×Int×Ml}(b:l[k]?=some x)(c:(now.find? λy=>decide (y.1=x.1))=some y):sW now (l.take (k+1))=sW now (l.take k)++ [y]:=by
 unfold sW;rw[Go.Vm.take_snoc b,List.filterMap_append,List.filterMap_cons,c,List.filterMap_nil]
end Go.Im
namespace Go.Proofs.Im
section
variable{h h' g h0:Hp}{P d F I J Z:Pos->Prop}{ps pl ib p ir pc im a:Pos}{A B:Acc}{cb:Cap}{fb uid only:Bool}{v vm vl vv vw vk vs:V}{l:List (Int×Int×Ml)}{L:List V}{s:List Nat}{w:Wds}{st:Sn}{bb:Nat}{ks:Int×Int×List (Int×Int×Int)}{x y:Int×Int×Ml}
theorem aw9{wr:Wr}{cs:List V}(k:Kn g a (O wr cs))(b:cs[0]?=some (iV x.1)):DF [.agg (V.ofList (msC y vk vs)),X a 0] g=D (K (decide (y.1=x.1))) (g.new (O (N tMs true) (msC y vk vs))):=by
 have e1:=(Kn.new g (O (N tMs true) (msC y vk vs))).ld (q:=0) (x:=iV y.1) rfl;have e2:=(k.add (O (N tMs true) (msC y vk vs))).ld b;rw[apU];simp only[vvB,seval,Xr,adz,ady,V.bW,e1,e2];simp only[aU,cO,vvB,seval,dn]
theorem aBp(p:Pos)(x:V)(g:Hp):dI iM (.func (.func alj) .nil (.cons (X p 0) .nil)) [x] g=DF [x,X p 0] g:=(rfl)
theorem Rq.fresh(q:Rq bb h0 Z h pc im ps ir uid w s st L vw P F J pl ib cb fb vm vl vv I)(hv:st.vw=some ks)(hA:st.acc.Small)(hk:ks.2.2.length<=1000)(r:Rws d msE 10 h v l)(hl:l.length<=1000)
  (C:∀x∈l,∃y,((fQ st.acc.mails ks.1 0 ks.2.2).find? λy=>decide (y.1=x.1))=some y):
  ∃rv h',Q8 [X ir 0,v] h=D rv h'/\gK h.next.nat msE tMs 10 h' rv (sW (fQ st.acc.mails ks.1 0 ks.2.2) l)/\Nw h h':=by
 obtain⟨now,E⟩:∃now,now=fQ st.acc.mails ks.1 0 ks.2.2:=⟨_,rfl⟩
 obtain⟨rm,u,e1,o1,c1⟩:=q.messages hv hA hk;rw[<-E]at o1 C⊢;have ar:now.length<=1000:=by rw[E];exact Nat.le_trans (MP _ _ _ _) hk
 have R:=(o1.rws dD).mono (P':=λj=>h.next.nat<=j.nat/\j.nat<u.next.nat) dD λj hj q=>⟨q,hj⟩
 have R0:=q.kr.ld q.l0;have R1:=q.kr.ld q.l1;have n1:=c1.next;rw[arJ];show aW i! _ (λr h'=>gK h.next.nat msE tMs 10 h' r (sW now l)/\Nw h h') _;simp only[vvB,seval,abt,afE,afD,afC,afB,R0,R1,e1,r.len];refine Oc.then (dK (σ:=V) (n:=l.length) (pi:=21) (pn:=20) (pc:=22) [5,6,19] (λo=> [rm,o,v]) (λk o g=>Nw u g/\dA u.next.nat (λj=>h.next.nat<=j.nat/\j.nat<u.next.nat) msE tMs 10 g o (sW now (l.take k)))
  (A:=λfr g=>∃o,fr.get (c! 6)=some o/\Nw u g/\dA u.next.nat (λj=>h.next.nat<=j.nat/\j.nat<u.next.nat) msE tMs 10 g o (sW now l)) (B:=λfr g=>False) (s:=.aO)
  (λfr h _ k e1 e2=>by simp only[vvB,seval,afA,e1,e2]) (λfr h k _ e1=>by simp(disch:=omega)only[vvB,seval,afw,e1]) (by decide) (by rw[dO];omega) (qK0) (qK0) (by simp only[Fa,vvB,seval,and_self]) ⟨Nw.refl _,dA.nil _ _ _ _ _ _⟩ ?_ ?_) ?_ ?_
 ·intro k o fr g ak ab ah fa hI;obtain⟨f5,f6,Q,-⟩:=fa;obtain⟨c,own⟩:=hI;obtain⟨x,hx⟩:∃x,l[k]?=some x:=⟨_,b! ak⟩
  obtain⟨y,hy⟩:=C x (d! hx);obtain⟨i,qq,cs,e2,ex,ai,-,-,-,e3⟩:=(r.nw dD (c1.trans c)).elt hx;have ag:=e3 g rfl;obtain⟨xk,xs,aj,-,-⟩:=ex;obtain⟨g2,S⟩:∃g2,g2=g.new (O (N tMs true) cs):=⟨_,rfl⟩
  have S2:aQ 10 (X g.next 0) (.agg (V.ofList cs)) (g.new (O (N tMs true) zMs))=D V.undef g2:=by
   rw[S];have:=ig (h:=g) (t:=tMs) (f:=true) (z:=zMs) (l:=V.ofList cs) (n:=10) (V.dG _) (by rw[V.bW];exact ai) rfl;rw[V.bW]at this;exact this
  have c2:Nw g g2:=by rw[S];exact Nw.new _ _
  have k2:Kn g2 g.next (O (N tMs true) cs):=by rw[S];exact Kn.new _ _
  obtain⟨g3,e4,c3⟩:=Jp (R.nw dD (c.trans c2)) dD (λy=>decide (y.1=x.1)) (by omega) (f:=.func (.func alj) .nil (.cons (X g.next 0) .nil)) (λb ap g' _ cg e _=>by
   obtain⟨vk,vm,rfl,-,-⟩:=e;rw[aBp,aw9 (x:=x) (k2.nw cg) (by rw[aj];rfl)];exact⟨_,rfl,Nw.new _ _⟩)
  have m:=Kt (f:=λy:Int×Int×Ml=>decide (y.1=x.1)) (l:=now);rw[hy]at m;cases ad:now.findIdx? (λy=>decide (y.1=x.1)) with
  |none=>rw[ad]at m;cases m
  |some t=>
   rw[ad]at m e4;simp only[gy]at e4;have al:now[t]?=some y:=m.symm;have G:=(c.trans c2).trans c3;obtain⟨i2,q2,M,am,aa,ac,-,-,-,ae⟩:=(R.nw dD G).elt al;have W:=ae g3 rfl;have hB:bJ tMs zMs 1 [(0,10,.agg (V.ofList M))] g3=D (.slice g3.next 0 1 (.kn 1)) (g3.new (O (N tMs true) M)):=by
    obtain⟨k2,s2,rfl,-,-⟩:=aa;rfl
   have aq:=G.next;have an:=c.next;have ao:(sW now (l.take k)).length<=1000:=by
    unfold sW;have u:=List.length_filterMap_le (λx:Int×Int×Ml=>now.find? λy=>decide (y.1=x.1)) (l.take k);rw[o!]at u;omega
   obtain⟨o',g4,e5,af,c5,-,-⟩:=(own.nw dD (c2.trans c3)).app1 (bt:=120) (x:=y) (cs:=M) (P':=λj=>h.next.nat<=j.nat/\j.nat<u.next.nat) dD (by omega) ac (λ_ _ q=>q) aa (λj _ q e=>by have:=(own.eY e).1;omega) (by omega);simp(disch:=omega)only[vvB,seval,afz,afy,afx,f5,f6,Q,ab,e2,ag,S2,e4,am,W,hB,e5];refine⟨qK2 ab,qK2 ah,o',by simp only[Fa,vvB,seval,f5,Q,and_self],G.own c5 λj e=>(own.eY e).1,?_⟩;rw[awF hx hy];exact af
 ·intro o fr g fa hI;obtain⟨f5,f6,Q,-⟩:=fa;obtain⟨c,own⟩:=hI;rw[j!]at own;exact⟨o,f6,c,own⟩
 ·rintro fr g ⟨o,f6,c,own⟩;simp only[vvB,seval,afv,f6];exact aW.ret (r:=o) (qT0) ⟨own.wide dD (by omega) λj hj q=>⟨q.1,λe=>by have:=(own.eY e).1;omega⟩,c1.trans c⟩
 ·intro fr g q;exact q.elim
end
end Go.Proofs.Im
namespace Go.Im
theorem VwR.tell{tV tM tA:TypeId}{h:Hp}{J:Pos->Prop}{pv:Pos}{box had:Int}{l:List Mg}{vv:V}{t:Nat}{x:Mg}(a:VwR tV tM tA h J pv box had l vv)(s:l[t]?=some x)(n:Int):
  VwR tV tM tA (h.put x.at_ (some (O (N tA true) [iV n]))) J pv box had (l.set t {x with told:=n}) vv:=by
 have c:Ch (λj=>j=x.at_) h (h.put x.at_ (some (O (N tA true) [iV n]))):=Ch.put _ _ rfl;have B:=d! s;have G:=(x!.1 s).1;have same:∀{L:Type} (f:Mg->L),f {x with told:=n}=f x->(l.set t {x with told:=n}).map f=l.map f:=λf e=>by
  apply I!;intro k;rw[h!,h!];by_cases o:t=k
  ·subst o;rw[g! G,s];simp[e]
  ·rw[E! o]
 have v:(l.set t {x with told:=n}).map mgC=l.map mgC:=same mgC rfl;have p:(l.set t {x with told:=n}).map (·.at_)=l.map (·.at_):=same (·.at_) rfl;have mem:∀y∈l.set t {x with told:=n},∃z∈l,z.at_=y.at_:=λy d=>by
  have:y.at_∈l.map (·.at_):=by rw[<-p];exact List.mem_map_of_mem d
  obtain⟨z,u,e⟩:=M!.1 this;exact⟨z,u,e⟩
 have r:=a.sep x B;refine⟨a.vw.ch c λe=>r.1 e.symm,?_,λy d=>?_,by rw[p];exact a.nd,λy d=>?_,a.nv,⟨a.foot.1,a.foot.2.1,λy d=>?_⟩,λj q=>by rw[jI];exact a.lt j q⟩
 ·rcases a.row with⟨rfl,-⟩|⟨i,f,rest,e,k⟩
  ·simp at s
  ·refine .inr ⟨i,f,rest,by rw[u!];exact e,?_⟩;rw[v];exact k.ch c λq=>r.2 (by rw[e,<-q];rfl)
 ·obtain⟨k,o,e⟩:=D!.1 d;rw[u!]at o;by_cases b:t=k
  ·subst b;rw[List.getElem_set_self]at e;subst e;exact(a.told x B).put _
  ·rw[List.getElem_set_ne b]at e;have w:y∈l:=by rw[<-e];exact List.getElem_mem o
   refine(a.told y w).ch c λq=>b ?_;have C:(l.map (·.at_))[t]?=some x.at_:=by rw[h!,s];rfl
   have E:(l.map (·.at_))[k]?=some x.at_:=by rw[h!,b! o,e];exact congrArg some q
   exact aex a.nd C E
 ·obtain⟨z,u,e⟩:=mem y d;rw[<-e];exact a.sep z u
 ·obtain⟨z,u,e⟩:=mem y d;rw[<-e];exact a.foot.2.2 z u
def DK(x:Mg)(now:List (Int×Ml)):Int:=now.foldl (λa y=>if y.1=x.uid/\y.2.id=x.id then y.2.mod else a) x.told
end Go.Im
namespace Go.Proofs.Im
section
variable{h h' g:Hp}{J F I:Pos->Prop}{ps pl ib pv:Pos}{A:Acc}{cb:Cap}{fb:Bool}{vm vl vw:V}{t:Nat}{m:List Mg}{x:Mg}{box had:Int}
theorem aC6(a:dJ h F ps A pl ib cb fb vm vl I)(hA:A.Small)(vk:VwK h J pv box had m vw)(hm:m.length<=1000)(hs:(Wn A.mails box).Pairwise λx y=>x.1<y.1)(ah:(Wn A.mails box).length<50)(hx:m[t]?=some x):
  ∃u h',Oa [X pv 0,X ps 0,iV ((t:Int)+1)] h=D u h'/\VwK h' J pv box had (m.set t {x with told:=DK x (Wn A.mails box)}) vw/\Ch (λj=>j=x.at_) h h':=by
 have ht:=(x!.1 hx).1;have ai:=d! hx;have V1:=vk.vw.ld (q:=1) (x:=vw) rfl;have V0:=λ{g:Hp} (k:VwK g J pv box had m vw)=>k.vw.ld (q:=0) (x:=iV box) rfl;have R:=vk.rws;have ll:=λh=>R.len h;obtain⟨i,q,cs,ix,ex,an,-,-,-,ak⟩:=R.elt hx;obtain rfl:cs=mgC x:=ex;have ad:=ak h rfl;obtain⟨f,M⟩:∃f,f=h.new (O (N tVm true) (mgC x)):=⟨_,rfl⟩
 have S1:aQ 3 (X h.next 0) (.agg (V.ofList (mgC x))) (h.new (O (N tVm true) [(Y U 0),(Y U 0),.bY]))=D V.undef f:=by rw[M];exact ig (V.dG _) rfl rfl
 have c1:Nw h f:=by rw[M];exact Nw.new _ _
 have k1:Kn f h.next (O (N tVm true) (mgC x)):=by rw[M];exact Kn.new _ _
 have af:=vk.ch c1 λ_ _ q=>q;have B1:=V0 af;obtain⟨r,h2,e2,o2,c2⟩:=Wx (a.nw c1) hA hs ah;have am:=af.ch c2 λ_ _ q=>q;have k2:=k1.nw c2;have R2:=(o2.rws dS).mono (P':=λj=>f.next.nat<=j.nat) dS λj _ q=>q;have l2:=λh=>o2.len h;have n1:=c1.next;have n2:=c2.next;have ap:=k1.2;have ac:=vk.lt _ (vk.foot.2.2 x ai);have e1:(((t:Int)+1)<1)=False:=eq_false (by omega);have e3:(((t:Int)+1)>(m.length:Int))=False:=eq_false (by omega);have e4:((t:Int)+1 - 1)=(t:Int):=by omega
 rw[avR]
 suffices T:aW i! [] (λ_ h'=>VwK h' J pv box had (m.set t {x with told:=DK x (Wn A.mails box)}) vw/\Ch (λj=>j=x.at_) h h') (VI (T.set (some (iV ((t:Int)+1))) (c! 2) (T.set (some (X ps 0)) (c! 1) (T.set (some (X pv 0)) (c! 0) T.nil))) h) by
  obtain⟨r,h',e,q⟩:=T;exact⟨r,h',e,q⟩
 simp(disch:=omega)only[vvB,seval,VI,ah7,ah6,ah5,fD,V1,ll,e1,e3,e4,ix,ad,S1,B1,e2,l2];refine Oc.out (Q:=λo=>aW i! [] (λ_ h'=>VwK h' J pv box had (m.set t {x with told:=DK x (Wn A.mails box)}) vw/\Ch (λj=>j=x.at_) h h') o) (dK (σ:=Unit) (n:=(Wn A.mails box).length) (pi:=39) (pn:=38) (pc:=40) [6,37] (λ_=> [X h.next 0,r]) (λk _ g=>VwK g J pv box had (m.set t {x with told:=DK x ((Wn A.mails box).take k)}) vw/\Ch (λj=>j=x.at_) h g/\Ch (λj=>j=x.at_) h2 g)
  (A:=λfr g=>VwK g J pv box had (m.set t {x with told:=DK x (Wn A.mails box)}) vw/\Ch (λj=>j=x.at_) h g) (B:=λfr g=>False) (s:=())
  (λfr h _ k e1 e2=>by simp only[vvB,seval,ah4,e1,e2]) (λfr h k _ e1=>by simp(disch:=omega)only[vvB,seval,ah2,e1]) (by decide) (by rw[dO];omega) (qK0) (qK0) (by simp only[Fa,vvB,seval,and_self]) ⟨?_,(c1.trans c2).ch,Ch.refl _ _⟩ ?_ ?_) ?_ ?_
 ·have:m.set t {x with told:=DK x ((Wn A.mails box).take 0)}=m:=by
   show m.set t x=m;apply I!;intro k;by_cases hk:t=k
   ·subst hk;rw[g! ht,hx]
   ·rw[E! hk]
  rw[this];exact am
 ·intro k _ fr g hk d G fa hI;obtain⟨W,c,-⟩:=fa;obtain⟨Z,E,l⟩:=hI;obtain⟨y,hy⟩:∃y,(Wn A.mails box)[k]?=some y:=⟨_,b! hk⟩
  have Rg:=R2.ch (P':=λj=>f.next.nat<=j.nat) dS l λj _ q=>⟨q,λe=>by rw[e]at q;omega⟩
  obtain⟨iy,qy,cy,S,ag,ao,-,-,-,al⟩:=Rg.elt hy;have p:=al g rfl;obtain⟨yk,ys,rfl,-,-⟩:=ag;obtain⟨v,L⟩:∃v,v=g.new (O (N tTh true) (thC y yk ys)):=⟨_,rfl⟩
  have S2:aQ 9 (X g.next 0) (.agg (V.ofList (thC y yk ys))) (g.new (O (N tTh true) zTh))=D V.undef v:=by rw[L];exact ig (V.dG _) rfl rfl
  have b:Nw g v:=by rw[L];exact Nw.new _ _
  have kg:Kn v g.next (O (N tTh true) (thC y yk ys)):=by rw[L];exact Kn.new _ _
  have kx:Kn v h.next (O (N tVm true) (mgC x)):=(k2.ch l λe=>by rw[<-e]at ac;omega).nw b;have Y0:=kg.ld (q:=0) (x:=iV y.1) rfl;have Y1:=kg.ld (q:=1) (x:=iV y.2.id) rfl;have Y7:=kg.ld (q:=7) (x:=iV y.2.mod) rfl;have X0:=kx.ld (q:=0) (x:=iV x.uid) rfl;have X1:=kx.ld (q:=1) (x:=iV x.id) rfl;have X2:=kx.ld (q:=2) (x:=X x.at_ 0) rfl;have z:=Z.ch b λ_ _ q=>q;have P:DK x ((Wn A.mails box).take (k+1))=(if y.1=x.uid/\y.2.id=x.id then y.2.mod else DK x ((Wn A.mails box).take k)):=by
   unfold DK;rw[Go.Vm.take_snoc hy,List.foldl_append];rfl
  by_cases f:y.1=x.uid
  ·have b1:(y.1=x.uid)=True:=eq_true f;by_cases w:y.2.id=x.id
   ·have b2:(y.2.id=x.id)=True:=eq_true w;obtain⟨x',ab,C⟩:∃x',(m.set t {x with told:=DK x ((Wn A.mails box).take k)})[t]?=some x'/\x'={x with told:=DK x ((Wn A.mails box).take k)}:=⟨_,g! ht,rfl⟩
    have aj:=z.told x' (d! ab);have aa:x'.at_=x.at_:=by rw[C]
    obtain⟨u,eS⟩:=Jo (n:=y.2.mod) aj (q:=0) (by show 0<1;omega);rw[aa]at eS;have eS:mQ [X x.at_ 0,iV y.2.mod] v=D u (v.put x.at_ (some (O (N tAt true) [iV y.2.mod]))):=eS;have ae:=z.tell ab y.2.mod;rw[aa,List.set_set,C]at ae;simp(disch:=omega)only[vvB,seval,LP,LK,ah3,W,c,d,S,p,S2,Y0,X0,b1,Y1,X1,b2,X2,Y7,eS];have c3:Ch (λj=>j=x.at_) v (v.put x.at_ (some (O (N tAt true) [iV y.2.mod]))):=Ch.put _ _ rfl;refine⟨qK2 d,qK2 G,(),by simp only[Fa,vvB,seval,W,c,and_self],?_,(E.nw b).trans c3 λ_ _ q=>q,(l.nw b).trans c3 λ_ _ q=>q⟩;rw[P,if_pos ⟨f,w⟩];exact ae
   ·have b2:(y.2.id=x.id)=False:=eq_false w;simp(disch:=omega)only[vvB,seval,LP,LK,W,c,d,S,p,S2,Y0,X0,b1,Y1,X1,b2];refine⟨qK2 d,qK2 G,(),by simp only[Fa,vvB,seval,W,c,and_self],?_,E.nw b,l.nw b⟩;rw[P,if_neg λe=>w e.2];exact z
  ·have b1:(y.1=x.uid)=False:=eq_false f;simp(disch:=omega)only[vvB,seval,LP,LK,W,c,d,S,p,S2,Y0,X0,b1];refine⟨qK2 d,qK2 G,(),by simp only[Fa,vvB,seval,W,c,and_self],?_,E.nw b,l.nw b⟩;rw[P,if_neg λe=>f e.1];exact z
 ·intro _ fr g fa hI;obtain⟨Z,E,-⟩:=hI;rw[j!]at Z;exact⟨Z,E⟩
 ·rintro fr g ⟨Z,E⟩;exact aW.nor (qT0) ⟨Z,E⟩
 ·intro fr g q;exact q.elim
end
end Go.Proofs.Im
namespace Go.Im
def fM(a:Nat)(n:Nat):List Nat:=if n=1 then dP a else dP a++([58]++dP (a+n - 1))
end Go.Im
namespace Go.Proofs.Im
section
variable{h h' g:Hp}{P:Pos->Prop}{v:V}{a n:Nat}{l:List Int}
theorem bR2(x y:Int)(h:Hp):bU [(Y U 0),(Y U 0)] [(0,1,iV x),(1,1,iV y)] h=D (.agg (V.ofList (dY (x,y)))) h:=(rfl)
theorem bsR(t:TypeId)(x:Int×Int)(h:Hp):bJ t [(Y U 0),(Y U 0)] 1 [(0,2,.agg (V.ofList (dY x)))] h=D (.slice h.next 0 1 (.kn 1)) (h.new (O (N t true) (dY x))):=(rfl)
theorem bsS(t:TypeId)(s:List Nat)(h:Hp):bJ t [(H [])] 1 [(0,1,H s)] h=D (.slice h.next 0 1 (.kn 1)) (h.new (O (N t true) (fF s))):=(rfl)
theorem aBy(R:Rws P (flat fH) 1 h v l)(hl:l=(List.range n).map λk=>((a+k:Nat):Int))(ha:1<=a)(hn:1<=n)(ai:a+n<100):∃h',VX [v] h=D (H (fM a n)) h'/\Nw h h':=by
 have ad:l.length=n:=by rw[hl];simp
 have af:∀k,k<n->l[k]?=some ((a+k:Nat):Int):=λk hk=>by rw[hl,h!,List.getElem?_range hk];rfl
 have ll:=λg=>R.len g;rw[ad]at ll;rw[av3]
 suffices T:aW i! [.tmp 2] (λr h'=>r=H (fM a n)/\Nw h h') (VN (T.set (some v) (c! 0) T.nil) h) by
  obtain⟨r,h',e,rfl,c⟩:=T;exact⟨h',e,c⟩
 simp only[vvB,reduceCtorEq,↓reduceIte,VN,aiR,aiQ,aiP,aiO,ll];refine Oc.then (dK (σ:=V×Int) (n:=n) (pi:=14) (pn:=13) (pc:=15) [3,4,12] (λs=> [s.1,iV s.2,v]) (λk s g=>Nw h g/\((k=0/\s.1=.aO/\s.2=0)\/(0<k/\∃i f,s.1=.slice i 0 1 (.un 2)/\s.2=((a+k:Nat):Int) - 1/\Kn g i (O (N oC f) (dY ((a:Int),((a+k:Nat):Int) - 1)))/\h.next.nat<=i.nat)))
  (A:=λfr g=>Nw h g/\∃i f,fr.get (c! 3)=some (.slice i 0 1 (.un 2))/\Kn g i (O (N oC f) (dY ((a:Int),((a+n:Nat):Int) - 1)))/\h.next.nat<=i.nat) (B:=λ_ _=>False) (s:=(.aO,0))
  (λfr h _ k e1 e2=>by simp only[vvB,aiN,e1,e2]) (λfr h k _ e1=>by simp(disch:=omega)only[vvB,afi,e1]) (by decide) (by rw[dO];omega) (qK0) (qK0) (by simp only[Fa,vvB,a!,↓reduceIte,and_self]) ⟨Nw.refl _,.inl ⟨rfl,rfl,rfl⟩⟩ ?_ ?_) ?_ ?_
 ·rintro k ⟨s1,s2⟩ fr g hk z ab J M;obtain⟨f3,f4,p,-⟩:=J;obtain⟨c,hs⟩:=M;obtain⟨ii,q,cs,ix,ex,-,-,-,ld,-⟩:=(R.nw (aK _) c).elt (af k hk);obtain rfl:cs=fH ((a+k:Nat):Int):=ex;have S:=ld g rfl 0 (iV ((a+k:Nat):Int)) rfl;rw[n!]at S;have ag:=c.next;rcases hs with⟨rfl,rfl,rfl⟩|⟨aj,i,f,rfl,rfl,Q,hi⟩
  ·have e0:(((a+0:Nat):Int)<=0)=False:=eq_false (by omega);have L0:∀g,aZ 2 .aO g=D (Y U 0) g:=λ_=>rfl;obtain⟨w,b,e2,o2,y,n2,i2⟩:=(dA.nil g.next.nat (λ_=>False) (flat dY) oC 2 g).ao0 (bt:=16) (x:=(((a+0:Nat):Int),((a+0:Nat):Int))) (e! _) rfl (by simp);have e2:bK oC 2 16 .aO (.slice g.next 0 1 (.kn 1)) (g.new (O (N oC true) (dY (((a+0:Nat):Int),((a+0:Nat):Int)))))=D w b:=e2;have bR:=λh=>bR2 ((a+0:Nat):Int) ((a+0:Nat):Int) h;have bS:=bsR oC (((a+0:Nat):Int),((a+0:Nat):Int)) g;have I:((0:Int)>0)=False:=eq_false (by omega);simp(disch:=omega)only[vvB,a!,↓reduceIte,WX,WW,WV,WU,afj,TQ,f3,f4,p,z,ix,S,e0,L0,I,bR,bS,e2];refine⟨qK2 z,qK2 ab,(w,((a+0:Nat):Int)),by simp only[Fa,vvB,a!,↓reduceIte,p,and_self],c.own y λj e=>(by cases e),.inr ⟨by omega,?_⟩⟩;obtain⟨ae,aa,hw,s⟩:=o2;obtain rfl:=aa.flat;rcases s.is with⟨h0,-⟩|⟨i,e,hb,hi,f,hg⟩
   ·simp at h0
   ·refine⟨i,f,e,?_,⟨?_,hi⟩,by omega⟩
    ·show((a+0:Nat):Int)=((a+(0+1):Nat):Int) - 1;omega
    ·rw[hg];have:((a+(0+1):Nat):Int) - 1=((a+0:Nat):Int):=by omega
     rw[this];rfl
  ·have e0:(((a+k:Nat):Int)<=((a+k:Nat):Int) - 1)=False:=eq_false (by omega);have L0:∀g,aZ 2 (.slice i 0 1 (.un 2)) g=D (Y U 1) g:=λ_=>rfl;have I0:∀g,aX 2 (.slice i 0 1 (.un 2)) (Y U 0) g=D (X i 0) g:=λg=>lG (sz:=2) (i:=i) (c:=.un 2) (m:=0) (n:=1) (by omega) g;have L1:=Q.ld (q:=1) (x:=iV (((a+k:Nat):Int) - 1)) rfl;have I:((1:Int)>0)=True:=eq_true (by omega);have es:((1:Int) - 1)=0:=rfl;obtain⟨b,d⟩:∃b,b=g.put i (some (O (N oC f) (dY ((a:Int),((a+k:Nat):Int))))):=⟨_,rfl⟩
   have S1:aQ 1 (X i 1) (iV ((a+k:Nat):Int)) g=D V.undef b:=by rw[d];exact Q.st ⟨rfl,rfl⟩ (by show 1<2;omega)
   have y:Ch (λj=>j=i) g b:=by rw[d];exact Ch.put _ _ rfl
   simp(disch:=omega)only[vvB,a!,reduceCtorEq,↓reduceIte,WX,WW,WV,WU,aiM,TQ,f3,f4,p,z,ix,S,e0,L0,I,es,I0,L1,S1];refine⟨qK2 z,qK2 ab,(.slice i 0 1 (.un 2),((a+k:Nat):Int)),by simp only[Fa,vvB,a!,↓reduceIte,f3,p,and_self],c.then y λj hj q=>by rw[q]at hj;omega,.inr ⟨by omega,i,f,rfl,by show _=((a+(k+1):Nat):Int) - 1;omega,?_,hi⟩⟩;have:((a+(k+1):Nat):Int) - 1=((a+k:Nat):Int):=by omega
   rw[this,d];exact Q.put _
 ·rintro⟨s1,s2⟩ fr g J M;obtain⟨f3,f4,p,-⟩:=J;obtain⟨c,hs⟩:=M;rcases hs with⟨h0,-⟩|⟨-,i,f,rfl,-,Q,hi⟩
  ·omega
  ·exact⟨c,i,f,f3,Q,hi⟩
 ·rintro fr g ⟨c,i,f,f3,Q,hi⟩;have L0:∀g,aZ 2 (.slice i 0 1 (.un 2)) g=D (Y U 1) g:=λ_=>rfl;have I0:∀g,aX 2 (.slice i 0 1 (.un 2)) (Y U ((0:Nat):Int)) g=D (X i 0) g:=λg=>lG (sz:=2) (i:=i) (c:=.un 2) (m:=0) (n:=1) (by omega) g;simp only[vvB,a!,↓reduceIte,afh,afg,f3,L0];have ag:=c.next;refine Oc.then (dK (σ:=V) (n:=1) (pi:=52) (pn:=51) (pc:=53) [8,50] (λo=> [o,.slice i 0 1 (.un 2)]) (λk o g'=>Nw g g'/\gK g.next.nat (flat fF) lT 1 g' o ([fM a n].take k))
   (A:=λfr g'=>∃o,fr.get (c! 8)=some o/\Nw g g'/\gK g.next.nat (flat fF) lT 1 g' o [fM a n]) (B:=λ_ _=>False) (s:=.aO)
   (λfr h _ k e1 e2=>by simp only[vvB,aff,e1,e2]) (λfr h k _ e1=>by simp(disch:=omega)only[vvB,afd,e1]) (by decide) (by rw[dO];omega) (qK0) (qK1) (by simp only[Fa,vvB,a!,↓reduceIte,and_self]) ⟨Nw.refl _,gK.nil _ _ _ _ _⟩ ?_ ?_) ?_ ?_
  ·intro k o fr E hk C ac J M;obtain⟨W,u,-⟩:=J;obtain⟨G,own⟩:=M;obtain rfl:k=0:=by omega
   have own:gK g.next.nat (flat fF) lT 1 E o []:=own;have k1:=Q.nw G;have N1:=k1.ldN (n:=2) rfl;obtain⟨b,d⟩:∃b,b=E.new (O (N oC true) (dY ((a:Int),((a+n:Nat):Int) - 1))):=⟨_,rfl⟩
   have S2:aQ 2 (X E.next 0) (.agg (V.ofList (dY ((a:Int),((a+n:Nat):Int) - 1)))) (E.new (O (N oC true) [(Y U 0),(Y U 0)]))=D V.undef b:=by rw[d];exact ig (V.dG _) rfl rfl
   have y:Nw E b:=by rw[d];exact Nw.new _ _
   have k2:Kn b E.next (O (N oC true) (dY ((a:Int),((a+n:Nat):Int) - 1))):=by rw[d];exact Kn.new _ _
   have X0:=k2.ld (q:=0) (x:=iV (a:Int)) rfl;have X1:=k2.ld (q:=1) (x:=iV (((a+n:Nat):Int) - 1)) rfl;have d0:=U3 (n:=a) (by omega) b;have d1:=ag8 (n:=((a+n:Nat):Int) - 1) (by omega) (by omega) b;have ed:(((a+n:Nat):Int) - 1).toNat=a+n - 1:=by omega
   rw[ed]at d1;have q1:=(je (n:=a) (by omega)).1;have q2:=(je (n:=a+n - 1) (by omega)).1;have ak:=(G.trans y).next;have fin:∀s:List Nat,s=fM a n->∃w L,bK lT 1 16 o (.slice b.next 0 1 (.kn 1)) (b.new (O (N lT true) (fF s)))=D w L/\gK g.next.nat (flat fF) lT 1 L w [fM a n]/\Nw g L:=λs hs=>by
    obtain⟨w,L,e3,Z,c3,-⟩:=(own.nw (aK _) y).app (P0:=λ_=>False) (bt:=16) (x:=s) (cs:=fF s) (aK _) (by omega) rfl rfl (λj _ q=>q.elim) (by simp);rw[hs]at Z;exact⟨w,L,e3,by simpa using Z,(G.trans y).own c3 λj e=>(own.eY e).1⟩
   by_cases h1:n=1
   ·have eG:((((a+n:Nat):Int) - 1)>(a:Int))=False:=eq_false (by omega);obtain⟨w,L,e3,Z,c3⟩:=fin (dP a) (by unfold fM;rw[if_pos h1]);have bS:=bsS lT (dP a) b;simp(disch:=omega)only[vvB,a!,↓reduceIte,TP,TN,TM,TL,W,u,C,I0,N1,S2,X0,X1,d0,eG,bS,e3];exact⟨qK2 C,qK2 ac,w,by simp only[Fa,vvB,a!,↓reduceIte,u,and_self],c3,Z⟩
   ·have eG:((((a+n:Nat):Int) - 1)>(a:Int))=True:=eq_true (by omega);obtain⟨w,L,e3,Z,c3⟩:=fin (dP a++([58]++dP (a+n - 1))) (by unfold fM;rw[if_neg h1]);have bS:=bsS lT (dP a++([58]++dP (a+n - 1))) b;have a1:aI .add .none (H [58]) (H (dP (a+n - 1))) b=D (H ([58]++dP (a+n - 1))) b:=gu (by simp;omega);have a2:aI .add .none (H (dP a)) (H ([58]++dP (a+n - 1))) b=D (H (dP a++([58]++dP (a+n - 1)))) b:=gu (by simp;omega);simp(disch:=omega)only[vvB,a!,↓reduceIte,TP,TN,TM,afe,TL,W,u,C,I0,N1,S2,X0,X1,d0,d1,eG,a1,a2,bS,e3];exact⟨qK2 C,qK2 ac,w,by simp only[Fa,vvB,a!,↓reduceIte,u,and_self],c3,Z⟩
  ·intro o fr E J M;obtain⟨W,u,-⟩:=J;obtain⟨G,own⟩:=M;exact⟨o,W,G,own⟩
  ·rintro fr E ⟨o,W,G,own⟩;obtain⟨ae,aa,hw,s,kk,-⟩:=own.rws (aK _);obtain rfl:=aa.flat;have q1:=(je (n:=a) (by omega))
   have q2:=(je (n:=a+n - 1) (by omega))
   have ah:(fM a n).length<=10/\∀c∈fM a n,c<256:=by
    unfold fM;split
    ·exact⟨by omega,q1.2.1⟩
    ·refine⟨by simp;omega,λc hc=>?_⟩;rcases K!.1 hc with q|q
     ·exact q1.2.1 c q
     ·rcases K!.1 q with q|q
      ·simp at q;omega
      ·exact q2.2.1 c q
   obtain⟨r,b,e2,rfl,y⟩:=aak (l:= [fM a n]) (sep:= [44]) s kk (e! _) (by simp) (by simp) (by simp[iU];omega) (λt ht=>by simp at ht;subst ht;exact ah.2) (by simp) (.inl (by simp));simp only[vvB,afc,W,e2];exact aW.ret (qT0) ⟨rfl,(c.trans G).trans y⟩
  ·intro fr g q;exact q.elim
 ·intro fr g q;exact q.elim
end
end Go.Proofs.Im
