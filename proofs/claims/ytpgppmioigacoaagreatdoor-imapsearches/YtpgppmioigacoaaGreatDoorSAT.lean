/- Lemmas. No conditions. -/
import Derived.Test.YtpgppmioigacoaaGreatDoorSAS
import Derived.Test.YtpgppmioigacoaaGreatDoorSAR
set_option linter.all false
set_option maxRecDepth 100000
open List renaming getElem?_eq_getElem→a!,mem_of_getElem?→b!,getElem?_eq_some_iff→c!,take_length→d!,length_map→e!,map_append→h!,findIdx?_cons→i!,mem_append→l!,length_append→n!,mem_singleton→p!,mem_map→q!,eraseIdx_eq_take_drop_succ→r!,length_take→t!,length_eraseIdx_of_lt→v!,mem_of_mem_eraseIdx→x!,length_filter_le→A!,mem_of_mem_take→D!,findIdx?_append→E!,filter_append→F!,take_add_one→H!,getElem?_map→I!,append_assoc→J!
open Go.Vm.Pos renaming of→g!
open Go.Proofs.Tryz renaming prog→j!
open Bool renaming and_eq_true→k!,not_eq_true→K!
open Nat renaming ble→o!,le_refl→u!,ble_eq→w!,zero_add→y!,add_zero→z!,le_of_ble_eq_true→B!,ble_eq_true_of_le→C!,lt_of_lt_of_le→G!,zero_le→L!
open Go.Vm.V renaming int→Y,ptr→X,bool→K,str→H
open Go.IntKind renaming i64→U
open Go.Vm.Ob renaming cells→O
open Go.Vm.Wr renaming rw→N
open Go.Vm.R renaming ok→D
noncomputable section
open Go Go.Proofs Go.Vm Go.Im
namespace Go.Proofs.Im
section
variable{h h':Hp}{F I:Pos->Prop}{ps pl ib p:Pos}{A:Acc}{cb:Cap}{fb:Bool}{vm vl:V}
def asK{w:Wr}{cs:List V}{q:Nat}{n:Int}(k:Kn h p (O w cs))(a:cs[q]?=some (iV n)):H6 [X p q] h=D (iV n) h:=by
 have e:=ayi k a;rw[axL];simp only[vvB,seval,ast,ajP,ajO,NU,z!,e];simp only[bU,bT,vvB,seval,bW]
def aoP{t:TypeId}{f:Bool}{cs:List V}{q:Nat}{n:Int}(k:Kn h p (O (N t f) cs))(a:q<cs.length):∃u,yK [X p q,iV n] h=D u (h.put p (some (O (N t f) (cs.set q (iV n))))):=by
 have e:=avY (n:=n) k a;rw[atm];simp only[vvB,seval,aol,agl,Kq,z!,e];exact⟨_,rfl⟩
def axP{t:TypeId}{f:Bool}{cs:List V}{q:Nat}{n m:Int}(k:Kn h p (O (N t f) cs))(c:cs[q]?=some (iV n))(a: -9223372036854775808<=n+m)(b:n+m<9223372036854775808):
  ZE [X p q,iV m] h=D (iV (n+m)) (h.put p (some (O (N t f) (cs.set q (iV (n+m)))))):=by
 have e:=aC2 k c a b;rw[aFL];simp only[vvB,seval,aFj,awX,awW,axO,z!,e];simp only[bU,bT,vvB,seval,bW]
def amV(a:dV h F ps A pl ib cb fb vm vl I):J6 [X ps 0] h=D (iV A.clock) h:=by
 have e:=asK a.st (q:=9) rfl;rw[ata];simp only[vvB,seval,aoe,ajP,afx,afw,fM,e];simp only[bU,bT,vvB,seval,bW]
def arL(a:dV h F ps A pl ib cb fb vm vl I)(b:A.Small):Px [X ps 0] h=D (K false) h:=by
 have e:=amV a;have L:=a.st.ld (q:=6) (x:=iV 1073741824) rfl;have c:=b.clock;rw[axy];simp only[vvB,seval,asc,aiG,ai1,e,L,sN rfl L];simp only[bU,bT,vvB,seval,bW];rw[decide_eq_false (by omega)]
def arK(a:dV h F ps A pl ib cb fb vm vl I)(b:A.Small):
  Pv [X ps 0] h=D (iV (A.clock+1)) (h.put ps (some (O (N 78 true) (stC {A with clock:=A.clock+1} ib cb vm pl)))):=by
 have c:=b.clock;have e:=axP a.st (q:=9) (n:=A.clock) (m:=1) rfl (by omega) (by omega);rw[axw];simp only[vvB,seval,asa,ajP,aiU,e];simp only[bU,bT,vvB,seval,bW];rfl
def dV.al1(a:dV h F ps A pl ib cb fb vm vl I){B:Acc}(hb:B.boxes=A.boxes)(n:B.mails=A.mails)(g:B.ents=A.ents)(m:B.floor=A.floor):
  dV (h.put ps (some (O (N 78 true) (stC B ib cb vm pl)))) F ps B pl ib cb fb vm vl I:=by
 have c:Ch (λj=>j=ps) h (h.put ps (some (O (N 78 true) (stC B ib cb vm pl)))):=Ch.put _ _ rfl;have ne:=a.ne;refine⟨a.st.put _,?_,?_,by rw[hb];exact a.cap,?_,?_,a.ne,a.nm,a.nl,a.inn,a.foot,a.lt,by rw[g];exact a.enil⟩
 ·rw[m];exact a.lg.ch c λe=>ne.1 e.symm
 ·rw[hb];exact a.bx.ch c λe=>ne.2.1 e.symm
 ·rw[n];obtain⟨b,x,d,r⟩:=a.ml;refine⟨b,x.mono λ_ _ e=>dG e c λj _ q=>⟨q,λe=>(a.inn j q).2.1 e⟩,d,r.imp id λ⟨i,f,rest,e,k⟩=>⟨i,f,rest,e,k.ch c λl=>?_⟩⟩;exact(a.nm i (by rw[e];rfl)).1 l
 ·rw[g];obtain⟨b,x,d,s⟩:=a.en;exact⟨b,x.mono λ_ _ e=>e,d,s.ch c λj hj e=>(a.nl j hj).1 e⟩
def aaI(a:dV h F ps A pl ib cb fb vm vl I)(d:A.Small):
  ∃r h',Dn [X ps 0] h=D r h'/\Rws (λj=>h.next.nat<=j.nat) (flat gI) 6 h' r A.boxes/\Nw h h'/\dD h.next.nat (λ_=>False) (flat gI) 55 6 h' r A.boxes:=by
 have L:=a.st.ld (q:=10) rfl;have hb:=d.boxes;obtain⟨r,c,e1,r1,b,o1⟩:=ay6 a.bxr (by omega);rw[atb];simp only[vvB,seval,aof,Au,afx,afz,fM,L,e1];refine⟨r,c,by simp only[bU,bT,vvB,seval,bW],r1,b,?_⟩;rcases o1 with o1|o1
 ·rw[o1]at hb;simp at hb
 ·exact o1
abbrev zMl:List V:= [Y U 0,Y U 0,H [],Y U 0,.aQ,.aQ,Y U 0,Y U 0]
def aJG(x:V)(h:Hp):Di j! 40 x h=cO 8 x h:=kR
def aEs{P:Pos->Prop}{m:Ml}{vk vm:V}(e:jo P h m (dL m vk vm))(hk:m.keys.length<=1000)(hm:m.mem.length<=1000):
  ∃h' c d,Om [.agg (V.ofList (dL m vk vm))] h=D (.agg (V.ofList (dL m c d))) h'/\Nw h h'/\jo (λj=>h.next.nat<=j.nat) h' m (dL m c d):=by
 obtain⟨J,L,f,rk,rm⟩:=e;obtain⟨rfl,rfl⟩:vk=J/\vm=L:=by unfold dL at f;injection f with _ f;injection f with _ f;injection f with _ f;injection f with _ f;injection f with a f;injection f with b f;exact⟨a,b⟩
 obtain⟨g,w,C,k1⟩:=mkW h (O (N 40 true) (dL m vk vm));have n1:g.next.nat=h.next.nat+1:=by rw[w,bG]
 obtain⟨h2,y,z,z2⟩:=mkW g (O (N 40 true) zMl);have n2:h2.next.nat=g.next.nat+1:=by rw[y,bG]
 have G:=k1.nw z;obtain⟨c,h3,e3,Z,t,-⟩:=ZH (rk.nw (aN _) (C.trans z)) (by omega);have M:=G.nw t;obtain⟨d,E,e4,r4,u,-⟩:=aqT (rm.nw (aN _) ((C.trans z).trans t)) (by omega);have Q:=M.nw u;have z4:=(z2.nw t).nw u;have L1:=G.ld (q:=4) (x:=vk) rfl;have L2:=M.ld (q:=5) (x:=vm) rfl;have B:=G.ld (q:=5) (x:=vm) rfl;have n3:=t.next;have n4:=u.next;obtain⟨o,i⟩:∃o,o=E.put h.next (some (O (N 40 true) (dL m c vm))):=⟨_,rfl⟩
 have S5:aV 1 (X h.next 4) c E=D V.undef o:=by rw[i];exact Q.st (q:=4) Z.cell (show 4<8 by omega)
 have W:Kn o h.next (O (N 40 true) (dL m c vm)):=by rw[i];exact Q.put _
 have c5:Nw h o:=by rw[i];exact(((C.trans z).trans t).trans u).put (u! _) _
 have z5:Kn o g.next (O (N 40 true) zMl):=by rw[i];exact z4.Uf (λe=>by have:=congrArg Pos.nat e;omega) _
 obtain⟨r,k⟩:∃r,r=o.put h.next (some (O (N 40 true) (dL m c d))):=⟨_,rfl⟩
 have S6:aV 1 (X h.next 5) d o=D V.undef r:=by rw[k];exact W.st (q:=5) r4.cell (show 5<8 by omega)
 have k6:Kn r h.next (O (N 40 true) (dL m c d)):=by rw[k];exact W.put _
 have z6:Kn r g.next (O (N 40 true) zMl):=by rw[k];exact z5.Uf (λe=>by have:=congrArg Pos.nat e;omega) _
 have L6:=k6.ldN (n:=8) rfl;obtain⟨s,l⟩:∃s,s=r.put g.next (some (O (N 40 true) (dL m c d))):=⟨_,rfl⟩
 have S7:aV 8 (X g.next 0) (.agg (V.ofList (dL m c d))) r=D V.undef s:=by rw[l];exact z6.stN rfl rfl
 have z7:Kn s g.next (O (N 40 true) (dL m c d)):=by rw[l];exact z6.put _
 have c7:Nw h s:=by rw[l,k];exact(c5.put (u! _) _).put (by omega) _
 have v:Ch (λj=>j=h.next\/j=g.next) E s:=by
  rw[l,k,i];exact((Ch.put (S:=λj=>j=h.next\/j=g.next) _ _ (.inl rfl)).trans (Ch.put (S:=λj=>j=h.next\/j=g.next) _ _ (.inl rfl)) λ_ _ q=>q).trans (Ch.put (S:=λj=>j=h.next\/j=g.next) _ _ (.inr rfl)) λ_ _ q=>q
 rw[aqF];simp only[vvB,seval,ajY,acM,acL,acK,V.dB,<-w,<-y,L1,e3,L2,sN rm.noF B,e4,S5,S6,L6,S7];refine⟨s,c,d,by simp only[bU,bT,vvB,seval,aJG,z7.ldN (n:=8) rfl,bW],c7,c,d,rfl,?_,?_⟩
 ·exact Z.ch (P':=λj=>h.next.nat<=j.nat) (aN _) (u.ch.trans v λ_ _ q=>q) λj _ q=>⟨by omega,λe=>by rcases e with rfl|rfl<;>omega⟩
 ·exact r4.ch (P':=λj=>h.next.nat<=j.nat) (aN _) v λj _ q=>⟨by omega,λe=>by rcases e with rfl|rfl<;>omega⟩
end
section
variable{h h' g:Hp}{F I:Pos->Prop}{ps pl ib:Pos}{A:Acc}{cb:Cap}{fb:Bool}{vm vl:V}
def aQn(m:Ml)(vk vm:V)(h:Hp):bP 40 zMl 1 [(0,8,.agg (V.ofList (dL m vk vm)))] h=D (.slice h.next 0 1 (.kn 1)) (h.new (O (N 40 true) (dL m vk vm))):=(rfl)
def amU(a:dV h F ps A pl ib cb fb vm vl I)(M:A.Small):
  ∃r h',J3 [X ps 0] h=D r h'/\iU h.next.nat jo 40 8 h' r A.mails/\Nw h h':=by
 have L:=a.st.ld (q:=11) (x:=vm) rfl;have R:=a.ml.rws;have hn:=M.mails;rw[as8];show aX j! _ (λr h'=>iU h.next.nat jo 40 8 h' r A.mails/\Nw h h') _;simp only[vvB,seval,aoc,Au,afs,afr,afq,agN,fM,L,R.len];refine Oc.then (dO (σ:=V) (n:=A.mails.length) (pi:=13) (pn:=12) (pc:=14) [3,11] (λv=> [v,vm]) (λk v g=>Nw h g/\iU h.next.nat jo 40 8 g v (A.mails.take k))
  (A:=λfr g=>∃v,fr.get (g! 3)=some v/\Nw h g/\iU h.next.nat jo 40 8 g v A.mails) (B:=λfr g=>False) (s:=.aQ)
  (λfr h _ k e1 e2=>by simp only[vvB,seval,afp,e1,e2]) (λfr h k _ e1=>by simp(disch:=omega)only[vvB,seval,afm,e1]) (by decide) (by rw[dP];omega) (qK0) (qK0) (by simp only[Fa,vvB,seval,and_self]) ⟨Nw.refl _,iU.nil _ _ _ _ _⟩ ?_ ?_) ?_ ?_
 ·intro k v fr g hk d w y z;obtain⟨f3,b,-⟩:=y;obtain⟨c,o⟩:=z;obtain⟨m,C⟩:∃m,A.mails[k]?=some m:=⟨_,a! hk⟩
  obtain⟨i,q,cs,e1,⟨vk,vs,rfl,rk,rs⟩,-,-,-,-,S⟩:=(R.nw dG c).elt C;have u:=S g rfl;have l:=M.each m (b! C);obtain⟨J,f,p,k2⟩:=mkW g (O (N 40 true) (dL m vk vs));have P:=mkT 8 zMl f;have n2:J.next.nat=g.next.nat+1:=by rw[f,bG]
  obtain⟨g3,E,G,W,t,x3⟩:=aEs (show jo _ J m (dL m vk vs) from⟨vk,vs,rfl,rk.nw (aN _) p,rs.nw (aN _) p⟩) l.1 l.2;have o3:=o.nw dG (p.trans t);have aa:=c.next;have ab:=t.next;obtain⟨v',g4,Z,o5,Q,n5,-⟩:=o3.app (bt:=104) dG (by omega) (cs:=dL m E G) rfl x3 (λj _ q=>⟨by omega,λe=>by have:=(o.fF e).2;omega⟩) (by rw[t!];omega);simp only[vvB,seval,afo,afn,f3,b,d,e1,u,P,k2.ldN (n:=8) rfl,W,aQn,Z];refine⟨qK2 d,qK2 w,v',by simp only[Fa,vvB,seval,b,and_self],?_,?_⟩
  ·exact((c.trans p).trans t).own Q λj e=>(o.fF e).1
  ·rw[take_snoc C];exact o5
 ·intro v fr g y z;obtain⟨f3,b,-⟩:=y;obtain⟨c,o⟩:=z;rw[d!]at o;exact⟨v,f3,c,o⟩
 ·rintro fr g ⟨v,f3,c,o⟩;simp only[vvB,seval,afl,f3];exact aX.ret (r:=v) (qT0) ⟨o,c⟩
 ·intro fr g q;exact q.elim
def ayl{P:Pos->Prop}{m:Ml}{vk vs:V}(e:jo P h m (dL m vk vs))(hm:m.mem.length<=1000):
  ∃r h',Oi [.agg (V.ofList (dL m vk vs))] h=D r h'/\iU h.next.nat (flat eu) 3 1 h' r (m.mem.map (·.1))/\Nw h h':=by
 obtain⟨E,G,d,-,rm⟩:=e;obtain⟨rfl,rfl⟩:vk=E/\vs=G:=by unfold dL at d;injection d with _ d;injection d with _ d;injection d with _ d;injection d with _ d;injection d with a d;injection d with b d;exact⟨a,b⟩
 obtain⟨f,C,l,k1⟩:=mkW h (O (N 40 true) (dL m vk vs));have L:=k1.ld (q:=5) (x:=vs) rfl;have n1:=l.next;have R:=rm.nw (aN _) l;rw[aqA];show aX j! _ (λr h'=>iU h.next.nat (flat eu) 3 1 h' r (m.mem.map (·.1))/\Nw h h') _;simp only[vvB,seval,ajT,acg,afr,ace,adU,V.dB,<-C,L,R.len];refine Oc.then (dO (σ:=V) (n:=m.mem.length) (pi:=9) (pn:=8) (pc:=10) [3,7] (λv=> [v,vs]) (λk v g=>Nw f g/\iU f.next.nat (flat eu) 3 1 g v ((m.mem.map (·.1)).take k))
  (A:=λfr g=>∃v,fr.get (g! 3)=some v/\Nw f g/\iU f.next.nat (flat eu) 3 1 g v (m.mem.map (·.1))) (B:=λfr g=>False) (s:=.aQ)
  (λfr h _ k e1 e2=>by simp only[vvB,seval,acd,e1,e2]) (λfr h k _ e1=>by simp(disch:=omega)only[vvB,seval,mP,e1]) (by decide) (by rw[dP];omega) (qK0) (qK0) (by simp only[Fa,vvB,seval,and_self]) ⟨Nw.refl _,iU.nil _ _ _ _ _⟩ ?_ ?_) ?_ ?_
 ·intro k v fr g hk M f8 w y;obtain⟨f3,J,-⟩:=w;obtain⟨c,o⟩:=y;obtain⟨x,S⟩:∃x,m.mem[k]?=some x:=⟨_,a! hk⟩
  obtain⟨i,q,cs,e1,e2,-,-,-,-,e3⟩:=(R.nw (aN _) c).elt S;obtain rfl:cs=dK x:=e2;have t:=e3 g rfl;obtain⟨Q,z,p,k2⟩:=mkW g (O (N 106 true) (dK x));have W:=mkT 2 [Y U 0,Y U 0] z;have ab:=c.next;have ac:=p.next;obtain⟨v',g4,u,o5,Z,n5,-⟩:=(o.nw (aN _) p).app (bt:=8) (x:=x.1) (cs:=eu x.1) (P0:=λ_=>False) (aN _) (by omega) rfl rfl (λj _ q=>q.elim) (by simp;omega);have u:bZ 3 1 8 v (.slice Q.next 0 1 (.kn 1)) (Q.new (O (N 3 true) [iV x.1]))=D v' g4:=u;simp only[vvB,seval,ab9,ab8,f3,J,M,e1,t,W,k2.ld (q:=0) (x:=iV x.1) rfl,yM,u];refine⟨qK2 M,qK2 f8,v',by simp only[Fa,vvB,seval,J,and_self],?_,?_⟩
  ·exact(c.trans p).own Z λj e=>(o.fF e).1
  ·rw[take_snoc (show(m.mem.map (·.1))[k]?=some x.1 by rw[I!,S];rfl)];exact o5
 ·intro v fr g w y;obtain⟨f3,aa,-⟩:=w;obtain⟨c,o⟩:=y;rw[List.take_of_length_le (by simp)]at o;exact⟨v,f3,c,o⟩
 ·rintro fr g ⟨v,f3,c,o⟩;simp only[vvB,seval,afl,f3];exact aX.ret (r:=v) (qT0) ⟨o.lower (by omega),l.trans c⟩
 ·intro fr g q;exact q.elim
end
section
variable{h h' g:Hp}{P:Pos->Prop}{pl p:Pos}{A:Acc}{vl:V}
abbrev zEn:List V:= [Y U 0,Y U 0,Y U 0,Y U 0]
def aQC(x:En):eH 85 zEn 1 [(0,4,.agg (V.ofList (ja x)))]=some (O (N 85 true) (ja x),λp=>.slice p 0 1 (.kn 1)):=(rfl)
def awq{v:V}{fl c:Int}{ents es:List En}(lg:Kn h pl (O (N 130 true) [iV 10000,vl,iV fl]))(o:dD 0 (λ_=>False) (flat ja) 85 4 h vl ents)(r:Rws P (flat ja) 4 h v es)
  (ae:∀j,bV vl=some j->j≠pl) (hP:∀j:Pos,j.nat<h.next.nat->P j->j≠pl/\bV vl≠some j) (hc:∀e∈es,e.mod=c) (hl:∀e∈ents,e.mod<=c) (hn:ents.length+es.length<=10000):
  ∃u h' a,NT [X pl 0,v] h=D u h'/\Kn h' pl (O (N 130 true) [iV 10000,a,iV fl])/\dD 0 (λ_=>False) (flat ja) 85 4 h' a (ents++es)/\Ch (λj=>j=pl\/bV vl=some j) h h'/\
   (∀j,bV a=some j->bV vl=some j\/h.next.nat<=j.nat):=by
 rw[ay0]
 suffices T:aX j! [] (λu h'=>∃a,Kn h' pl (O (N 130 true) [iV 10000,a,iV fl])/\dD 0 (λ_=>False) (flat ja) 85 4 h' a (ents++es)/\Ch (λj=>j=pl\/bV vl=some j) h h'/\(∀j,bV a=some j->bV vl=some j\/h.next.nat<=j.nat))
   (alv (T.set (some v) (g! 1) (T.set (some (X pl 0)) (g! 0) T.nil)) h) by
  obtain⟨u,h',e,a,q⟩:=T;exact⟨u,h',a,e,q⟩
 simp only[vvB,seval,alv,an0,anZ,aoA,fM,r.len];have ah:=lg.2;refine Oc.then (dO (σ:=V) (n:=es.length) (pi:=12) (pn:=11) (pc:=13) [0,10] (λ_=> [X pl 0,v])
  (λk w g=>Kn g pl (O (N 130 true) [iV 10000,w,iV fl])/\dD 0 (λ_=>False) (flat ja) 85 4 g w (ents++es.take k)/\Ch (λj=>j=pl\/bV vl=some j) h g/\(∀j,bV w=some j->(bV vl=some j\/h.next.nat<=j.nat)/\j≠pl))
  (A:=λfr g=>fr.get (g! 0)=some (X pl 0)/\∃w,Kn g pl (O (N 130 true) [iV 10000,w,iV fl])/\dD 0 (λ_=>False) (flat ja) 85 4 g w (ents++es)/\Ch (λj=>j=pl\/bV vl=some j) h g/\(∀j,bV w=some j->bV vl=some j\/h.next.nat<=j.nat)) (B:=λ_ _=>False) (s:=vl)
  (λfr h _ k e1 e2=>by simp only[vvB,seval,anY,e1,e2]) (λfr h k _ e1=>by simp(disch:=omega)only[vvB,seval,anX,e1]) (by decide) (by rw[dP];omega) (qK0) (qK0) (by simp only[Fa,vvB,seval,and_self])
  ⟨lg,by simpa using o,Ch.refl _ _,λj q=>⟨.inl q,ae j q⟩⟩ ?_ ?_) ?_ ?_
 ·intro k w fr g hk m ac fa hI;obtain⟨f,d,-⟩:=fa;obtain⟨C,G,l,I⟩:=hI;obtain⟨x,hx⟩:∃x,es[k]?=some x:=⟨_,a! hk⟩
  have ai:=hc x (b! hx);obtain⟨i,q,cs,e1,e2,-,-,-,-,e3⟩:=(r.ch (P':=P) (aN _) l λj hj pj=>⟨pj,λe=>e.elim (hP j hj pj).1 (hP j hj pj).2⟩).elt hx;obtain rfl:cs=ja x:=e2;have J:=e3 g rfl;obtain⟨g2,ad,Q,k2⟩:=mkW g (O (N 85 true) (ja x));have S2:=mkT 4 zEn ad;have E:=C.nw Q;have L2:=E.ld (q:=1) (x:=w) rfl;have M2:=k2.ld (q:=0) (x:=iV x.mod) rfl;have o2:=G.nw (aN _) Q;have b:(ents++es.take k).length=ents.length+k:=by simp;omega
  have ol:=o2.len g2;rw[b]at ol;obtain⟨w',g3,e5,o5,c5,n5,M⟩:=o2.apP (bt:=32) (x:=x) (L! _) rfl (by rw[b];omega);have k5:=E.ch c5 λe=>(I pl e).2 rfl;obtain⟨L,z⟩:∃L,L=g3.put pl (some (O (N 130 true) [iV 10000,w',iV fl])):=⟨_,rfl⟩
  have S4:aV 1 (X pl 1) w' g3=D V.undef L:=by rw[z];exact k5.st (q:=1) o5.cell (show 1<3 by omega)
  have k4:Kn L pl (O (N 130 true) [iV 10000,w',iV fl]):=by rw[z];exact k5.put _
  have c4:Ch (λj=>j=pl) g3 L:=by rw[z];exact Ch.put _ _ rfl
  have ag:=l.next;have n2:=Q.next;have S:=(E.bump 1).ld (q:=1) (x:=w) rfl;have W:=(k2.bump 1).ldN (n:=4) rfl;have fin:Rd [0,10] (λ(_:V)=> [X pl 0,v]) 12 11 k es.length (λw g=>Kn g pl (O (N 130 true) [iV 10000,w,iV fl])/\dD 0 (λ_=>False) (flat ja) 85 4 g w (ents++es.take (k+1))/\Ch (λj=>j=pl\/bV vl=some j) h g/\(∀j,bV w=some j->(bV vl=some j\/h.next.nat<=j.nat)/\j≠pl))
    (λfr g=>fr.get (g! 0)=some (X pl 0)/\∃w,Kn g pl (O (N 130 true) [iV 10000,w,iV fl])/\dD 0 (λ_=>False) (flat ja) 85 4 g w (ents++es)/\Ch (λj=>j=pl\/bV vl=some j) h g/\(∀j,bV w=some j->bV vl=some j\/h.next.nat<=j.nat)) (λ_ _=>False) 0
    (yc 1 (aaP (T.set (some (K false)) (g! 36) (T.set (some (Y U ((ents.length+k:Nat):Int))) (g! 6) (T.set (some (X g.next 0)) (g! 5) fr))) g2)):=by
   simp only[vvB,seval,aaP,f,S,W,aQC,e5,S4];refine⟨qK2 m,qK2 ac,w',by simp only[Fa,vvB,seval,f,d,and_self],k4,?_,?_,?_⟩
   ·rw[take_snoc hx,<-J!];exact o5.ch (aN _) c4 (λj hj e=>by have:=M j hj;rw[e]at this;omega) λ_ _ q=>q.elim
   ·exact((l.nw Q).trans c5 λj hj e=>by have:=(I j e).1;rcases this with q|q;exact .inr q;omega).trans c4 λj _ e=>.inl e
   ·intro j e;have:=M j e;exact⟨.inr (by omega),λe'=>by rw[e']at this;omega⟩
  by_cases hz:ents.length+k=0
  ·simp(disch:=omega)only[vvB,seval,aaS,aaR,aaQ,f,d,m,e1,J,S2,L2,ol];exact fin
  ·obtain⟨y,hy⟩:∃y,(ents++es.take k)[ents.length+k - 1]?=some y:=⟨_,a! (by rw[b];omega)⟩
   have aj:y.mod<=c:=by
    rcases l!.1 (b! hy) with q|q
    ·exact hl y q
    ·rw[hc y (D! q)];omega
   obtain⟨i',q',Z,aa,ab,-,-,-,af,-⟩:=o2.aBZ.elt hy;obtain rfl:Z=ja y:=ab;have l3:=af g2 rfl 0 (iV y.mod) rfl;have hd:decide (x.mod<y.mod)=false:=decide_eq_false (by omega);have t:((ents.length+k:Nat):Int) - 1=((ents.length+k - 1:Nat):Int):=by omega
   simp(disch:=omega)only[vvB,seval,aaS,aaR,aaQ,f,d,m,e1,J,S2,L2,M2,ol,t,aa,l3,hd];exact fin
 ·intro w fr g fa hI;obtain⟨f,d,-⟩:=fa;obtain⟨C,G,l,I⟩:=hI;rw[d!]at G;exact⟨f,w,C,G,l,λj e=>(I j e).1⟩
 ·rintro fr g ⟨f,w,C,G,l,I⟩;have L1:=C.ld (q:=1) (x:=w) rfl;have L0:=C.ld (q:=0) (x:=iV 10000) rfl;have ol:=G.len g;rw[n!]at ol;simp(disch:=omega)only[vvB,seval,anW,anU,f,L1,L0,ol];exact⟨_,g,rfl,w,C,G,l,I⟩
 ·intro fr g q;exact q.elim
end
end Go.Proofs.Im
namespace Go.Vm
def aPY{h:Hp}(x y:Int×Int):ahj .eql [((.int U),0),((.int U),1)] (.agg (V.ofList (Go.Im.dK x))) (.agg (V.ofList (Go.Im.dK y))) h=D (K (decide (x=y))) h:=by
 refine(Un _ _ _ _).trans ?_;congr 2;obtain⟨a,b⟩:=x;obtain⟨c,d⟩:=y;simp[Prod.ext_iff]
end Go.Vm
namespace Go.Proofs.Im
section
variable{h h' g:Hp}{P:Pos->Prop}{A:Acc}{v:V}
def aqj{P:Pos->Prop}{h:Hp}{v:V}{l:List (List Nat)}(r:Rws P (flat jT) 1 h v l)(x:(List Nat))(hn:l.length<=1000000000):
  ∃h',yG [v,H x] h=D (Y U (gB (l.findIdx? λa=>decide (x=a)))) h'/\Nw h h':=by
 rw[aec]
 suffices T:aX j! [.tmp 4] (λr h'=>r=Y U (gB (l.findIdx? λa=>decide (x=a)))/\Nw h h') (FK (T.set (some (H x)) (g! 1) (T.set (some v) (g! 0) T.nil)) h) by
  obtain⟨r,h',e,rfl,c⟩:=T;exact⟨h',e,c⟩
 obtain⟨d,f⟩:∃d,d=h:=⟨_,rfl⟩
 have m:Nw h d:=by rw[f];exact Nw.refl _
 subst f;simp(disch:=omega)only[vvB,seval,FK,awX,KX,r.len,Pj,y!];refine Oc.then (dO (σ:=Unit) (n:=l.length) (pi:=8) (pn:=7) (pc:=9) [0,1] (λ_=> [v,H x]) (λk _ g=>g=d/\(l.take k).findIdx? (λa=>decide (x=a))=none)
  (A:=λfr g=>g=d/\l.findIdx? (λa=>decide (x=a))=none) (B:=λfr g=>fr.get (g! 4)=some (Y U (gB (l.findIdx? λa=>decide (x=a))))/\g=d) (s:=())
  (λfr h _ k e1 e2=>by simp only[vvB,seval,KW,e1,e2]) (λfr h k _ e1=>by simp(disch:=omega)only[vvB,seval,KQ,e1]) (by decide) (by rw[dP];omega) (qK0) (qK0) (by simp only[Fa,vvB,seval,and_self]) ⟨rfl,by simp⟩ ?_ ?_) ?_ ?_
 ·intro k _ fr g hk o E w p;obtain⟨u,f1,-⟩:=w;obtain⟨rfl,b⟩:=p;obtain⟨y,t⟩:∃y,l[k]?=some y:=⟨_,a! hk⟩
  obtain⟨i,q,cs,e1,ex,I,hi,-,e2,G⟩:=(r.nw (aN _) m).elt t;obtain rfl:cs=jT y:=ex;have z:aG (X i q) g=D (H y) g:=e2 g rfl 0 _ rfl;simp(disch:=omega)only[vvB,seval,KU,OJ,u,f1,o,e1,z,y!];by_cases j:x=y
  ·simp only[vvB,seval,j,KR,o,decide_true];refine⟨?_,rfl⟩;simp only[vvB,seval];rw[lK t (by rw[<-j];exact b) (by simp)];rfl
  ·simp only[vvB,seval,j,decide_false];refine⟨qK2 o,qK2 E,(),by simp only[Fa,vvB,seval,u,f1,and_self],rfl,?_⟩;rw[H!,t];simp[E!,b,j]
 ·intro _ fr g w p;obtain⟨rfl,b⟩:=p;rw[d!]at b;exact⟨rfl,b⟩
 ·rintro fr g ⟨rfl,b⟩;simp only[vvB,seval,KP];exact aX.ret (qT0) ⟨by rw[b];rfl,m⟩
 ·rintro fr g ⟨C,rfl⟩;exact aX.ret (qT1 C) ⟨rfl,m⟩
def aqk{P:Pos->Prop}{h:Hp}{v:V}{l:List (Int×Int)}(r:Rws P (flat dK) 2 h v l)(x:(Int×Int))(hn:l.length<=1000000000):
  ∃h',yH [v,.agg (V.ofList (dK x))] h=D (Y U (gB (l.findIdx? λa=>decide (x=a)))) h'/\Nw h h':=by
 rw[aed]
 suffices T:aX j! [.tmp 4] (λr h'=>r=Y U (gB (l.findIdx? λa=>decide (x=a)))/\Nw h h') (FM (T.set (some (V.agg (V.ofList (dK x)))) (g! 1) (T.set (some v) (g! 0) T.nil)) h) by
  obtain⟨r,h',e,rfl,c⟩:=T;exact⟨h',e,c⟩
 obtain⟨m,p,f,J⟩:=mkW h (O (N 106 true) (dK x));have z:=J.ldN (n:=2) rfl;simp(disch:=omega)only[vvB,seval,FM,O0,KX,r.len,Po,V.dB,<-p];refine Oc.then (dO (σ:=Unit) (n:=l.length) (pi:=8) (pn:=7) (pc:=9) [0,3] (λ_=> [v,X h.next 0]) (λk _ g=>g=m/\(l.take k).findIdx? (λa=>decide (x=a))=none)
  (A:=λfr g=>g=m/\l.findIdx? (λa=>decide (x=a))=none) (B:=λfr g=>fr.get (g! 4)=some (Y U (gB (l.findIdx? λa=>decide (x=a))))/\g=m) (s:=())
  (λfr h _ k e1 e2=>by simp only[vvB,seval,KW,e1,e2]) (λfr h k _ e1=>by simp(disch:=omega)only[vvB,seval,KQ,e1]) (by decide) (by rw[dP];omega) (qK0) (qK0) (by simp only[Fa,vvB,seval,and_self]) ⟨rfl,by simp⟩ ?_ ?_) ?_ ?_
 ·intro k _ fr g hk j I w o;obtain⟨u,f1,-⟩:=w;obtain⟨rfl,b⟩:=o;obtain⟨y,t⟩:∃y,l[k]?=some y:=⟨_,a! hk⟩
  obtain⟨i,q,cs,e1,ex,L,hi,-,e2,C⟩:=(r.nw (aN _) f).elt t;obtain rfl:cs=dK y:=ex;have E:=C g rfl;simp(disch:=omega)only[vvB,seval,KU,OW,u,f1,j,e1,E,z,aPY];by_cases d:x=y
  ·simp only[vvB,seval,d,KR,j,decide_true];refine⟨?_,rfl⟩;simp only[vvB,seval];rw[lK t (by rw[<-d];exact b) (by simp)];rfl
  ·simp only[vvB,seval,d,decide_false];refine⟨qK2 j,qK2 I,(),by simp only[Fa,vvB,seval,u,f1,and_self],rfl,?_⟩;rw[H!,t];simp[E!,b,d]
 ·intro _ fr g w o;obtain⟨rfl,b⟩:=o;rw[d!]at b;exact⟨rfl,b⟩
 ·rintro fr g ⟨rfl,b⟩;simp only[vvB,seval,KP];exact aX.ret (qT0) ⟨by rw[b];rfl,f⟩
 ·rintro fr g ⟨G,rfl⟩;exact aX.ret (qT1 G) ⟨rfl,f⟩
def ah2{l:List (List Nat)}(r:Rws P (flat jT) 1 h v l)(x:List Nat)(hn:l.length<=1000000000):∃h',rW [v,H x] h=D (K (l.any λa=>decide (x=a))) h'/\Nw h h':=by
 obtain⟨c,e1,b⟩:=aqj r x hn;rw[XM];simp(disch:=omega)only[vvB,seval,Ll,afk,GV,e1];exact⟨c,by simp only[bU,bT,vvB,seval,bW];rw[vC],b⟩
def ah3{l:List (Int×Int)}(r:Rws P (flat dK) 2 h v l)(x:Int×Int)(hn:l.length<=1000000000):∃h',kJ [v,.agg (V.ofList (dK x))] h=D (K (l.any λa=>decide (x=a))) h'/\Nw h h':=by
 obtain⟨h0,b,c,f⟩:=mkW h (O (N 106 true) (dK x));obtain⟨e,e1,d⟩:=aqk (r.nw (aN _) c) x hn;rw[XO];simp(disch:=omega)only[vvB,seval,Lm,GZ,GY,V.dB,<-b,f.ldN (n:=2) rfl,e1];exact⟨e,by simp only[bU,bT,vvB,seval,bW];rw[vC],c.trans d⟩
end
end Go.Proofs.Im
namespace Go.Vm
def Iz(c:Nat):Bool:=o! 33 c&&o! c 126&&!decide (Fq c [40,41,123,125,37,42,34,92,93]>=0)
def Wq(s:List Nat):Bool:=s.all Iz&&!decide (s= [])
def aez(s:List Nat):Bool:=Wq s&&o! s.length 64&&decide (foldM s=s)
end Go.Vm
namespace Go.Proofs.Im
section
variable{h h' g:Hp}{P:Pos->Prop}{A:Acc}{v:V}
def YE{s:List Nat}{c:Nat}(a:c<256):Dp [H s,Y .u8 (c:Int)] h=D (Y U (Fq c s)) h:=by
 have e:yJ [H s,Y .u8 (c:Int)] h=D (Y U (Fq c s)) h:=by
  show(match Nat.blt c 256 with|true=>iH U (Fq c s) h|false=>.bad)=_;rw[show Nat.blt c 256=true by rw[Nat.blt_eq];exact a];exact gK _ _ _
 rw[ah0];have e2:Dl [H s,Y .u8 (c:Int)] h=D (Y U (Fq c s)) h:=by
  rw[ahZ];simp only[vvB,seval,Zm,awX,UG,e];simp only[bU,bT,vvB,seval,bW]
 simp only[vvB,seval,Zn,awX,UI,e2];simp only[bU,bT,vvB,seval,bW]
def afg{s:List Nat}(hl:s.length<1000000000)(u:∀c∈s,c<256):xH [H s] h=D (K (Wq s)) h:=by
 rw[axt]
 suffices T:aX j! [.tmp 2] (λr h'=>r=K (Wq s)/\h'=h) (agy (T.set (some (H s)) (g! 0) T.nil) h) by
  obtain⟨r,h',e,rfl,rfl⟩:=T;exact e
 simp(disch:=omega)only[vvB,seval,agy,aiG,aiF,akd];refine Oc.then (dO (σ:=Unit) (n:=s.length) (pi:=6) (pn:=5) (pc:=7) [0] (λ_=> [H s]) (λk _ g=>g=h/\(s.take k).all Iz=true)
  (A:=λfr g=>fr.get (g! 0)=some (H s)/\g=h/\s.all Iz=true) (B:=λfr g=>fr.get (g! 2)=some (K (Wq s))/\g=h) (s:=())
  (λfr h _ k e1 e2=>by simp only[vvB,seval,aiE,e1,e2]) (λfr h k _ e1=>by simp(disch:=omega)only[vvB,seval,aiD,e1]) (by decide) (by rw[dP];omega) (qK0) (qK0) (by simp only[Fa,vvB,seval,and_self]) ⟨rfl,by simp⟩ ?_ ?_) ?_ ?_
 ·intro k _ fr g hk f t o b;obtain⟨d,-⟩:=o;obtain⟨rfl,b⟩:=b;obtain⟨c,l⟩:∃c,s[k]?=some c:=⟨_,a! hk⟩
  have a:=u c (b! l);have ex:mF (H s) (Y U (k:Int)) g=D (Y .u8 (c:Int)) g:=Z9 l;have bad:Iz c=false->fr.get (g! 6)=fr.get (g! 6)->Wq s=false:=λe _=>by
   unfold Wq;rw[show s.all Iz=false from ?_];rfl;rw[List.all_eq_false];exact⟨c,b! l,by rw[e];simp⟩
  by_cases x:c<33
  ·have i:((c:Int)<33)=True:=eq_true (by omega);simp(disch:=omega)only[vvB,seval,Ea,D9,aiG,d,f,ex,i];exact⟨by simp only[vvB,seval];rw[bad (by unfold Iz;rw[show o! 33 c=false by rw[<-K!,w!];omega];rfl) rfl],rfl⟩
  ·have i:((c:Int)<33)=False:=eq_false (by omega);by_cases y:126<c
   ·have m:((c:Int)>126)=True:=eq_true (by omega);simp(disch:=omega)only[vvB,seval,Ea,D9,aiG,d,f,ex,i,m];exact⟨by simp only[vvB,seval];rw[bad (by unfold Iz;rw[show o! c 126=false by rw[<-K!,w!];omega];simp) rfl],rfl⟩
   ·have m:((c:Int)>126)=False:=eq_false (by omega);have q:Iz c=!decide (Fq c [40,41,123,125,37,42,34,92,93]>=0):=by
     unfold Iz;rw[show o! 33 c=true by rw[w!];omega,show o! c 126=true by rw[w!];omega];rfl
    by_cases j:Fq c [40,41,123,125,37,42,34,92,93]>=0
    ·have p:=eq_true j;simp(disch:=omega)only[vvB,seval,Ea,D9,aiG,d,f,ex,i,m,YE a,p];exact⟨by simp only[vvB,seval];rw[bad (by rw[q,decide_eq_true j];rfl) rfl],rfl⟩
    ·have p:=eq_false j;simp(disch:=omega)only[vvB,seval,Ea,D9,d,f,ex,i,m,YE a,p];refine⟨qK2 f,qK2 t,(),by simp only[Fa,vvB,seval,d,and_self],rfl,?_⟩;rw[take_snoc l,List.all_append,b];simp[q,j]
 ·intro _ fr g o b;obtain⟨d,-⟩:=o;obtain⟨rfl,b⟩:=b;rw[d!]at b;exact⟨d,rfl,b⟩
 ·rintro fr g ⟨d,rfl,b⟩;simp(disch:=omega)only[vvB,seval,aiC,d];refine aX.ret (qT0) ⟨?_,rfl⟩;unfold Wq;rw[b];by_cases w:s= []<;>simp[w]
 ·rintro fr g ⟨f2,rfl⟩;exact aX.ret (qT1 f2) ⟨rfl,rfl⟩
def aDC{s:List Nat}(d:aez s=true):∃h',Tn [H s] h=D (K true) h'/\Nw h h':=by
 unfold aez at d;rw[k!,k!]at d;obtain⟨⟨a,hl⟩,k⟩:=d;have l:s.length<=64:=B! hl;have b:foldM s=s:=of_decide_eq_true k;have e:∀c∈s,c<256:=λc j=>by
  unfold Wq at a;rw[k!]at a;have:=List.all_eq_true.1 a.1 c j;unfold Iz at this;rw[k!,k!]at this;have:=B! this.1.2;omega
 obtain⟨i,e1,f⟩:=TB (h:=h) (s:=s) (by omega) e;rw[b]at e1;rw[atg];simp(disch:=omega)only[vvB,seval,aoh,aiG,afX,afg (h:=h) (s:=s) (by omega) e,a,e1];exact⟨i,by simp only[bU,bT,vvB,seval,bW]<;>rfl,f⟩
def aye(x:V)(g:Hp):dn qx (.func (.func 79) .nil .nil) [x] g=Tq [x] g:=(rfl)
def aFN{l:List (List Nat)}(r:Rws P (flat jT) 1 h v l)(C:∀k∈l,aez k=true)(hn:l.length<=1):
  ∃w h',Xf [v] h=D (.tuple (.cons w (.cons (iV 0) .nil))) h'/\Rws (λj=>h.next.nat<=j.nat) (flat jT) 1 h' w l/\Nw h h':=by
 obtain⟨y,e1,c⟩:=ZF r (aN _) (λ_=>false) (by omega) (f:=.func (.func 79) .nil .nil) (λa x g z E e=>by
  cases(show [x]= [H a] from e);obtain⟨t,e2,d⟩:=aDC (h:=g) (C a z);refine⟨t,?_,d⟩;rw[aye,ath];simp only[vvB,seval,aoi,aiG,afZ,e2];simp only[bU,bT,vvB,seval,bW])
 rw[show(l.any λ_=>false)=false by simp]at e1;obtain⟨w,n,e2,r2,d,o2⟩:=ZH (r.nw (aN _) c) (by omega);have B:=c.next;have p:∃u b,lZ [w] n=D u b/\Rws (λj=>y.next.nat<=j.nat) (flat jT) 1 b w l/\Nw h b:=by
  rcases o2 with rfl|o2
  ·exact⟨_,n,YG (r2.len n),r2,c.trans d⟩
  ·obtain⟨b,m,o3,i⟩:=asW o2 (by omega);rw[SC _ hn]at o3;exact⟨_,b,m,o3.rows (aN _) (λ_ _ q=>q.elim) λ_ q _=>q,(c.trans d).then i λj hj e=>by have:=(o2.fF e).1;omega⟩
 obtain⟨u,b,m,o,i⟩:=p;have s:=alM o hn;rw[axE];simp(disch:=omega)only[vvB,seval,asi,ajn,ajm,ajl,ajk,ajj,aji,ajh,e1,e2,m,s,o.len];exact⟨w,b,by simp only[bU,bT,vvB,seval,bW]<;>rfl,o.mono (aN _) λj _ q=>by omega,i⟩
end
end Go.Proofs.Im
namespace Go.Im
def updB(id:Int)(f:Bx->Bx):List Bx->List Bx
 | []=> []
 |b::l=>if b.id=id then f b::l else b::updB id f l
def akk{id:Int}{f:Bx->Bx}:∀{l:List Bx} {i:Nat},l.findIdx? (λb=>decide (b.id=id))=some i->∃b,l[i]?=some b/\updB id f l=l.set i (f b)
 | [],i,e=>by simp at e
 |b::l,i,e=>by
  rw[i!]at e;by_cases hb:b.id=id
  ·rw[if_pos (by simpa using hb)]at e;cases e;exact⟨b,rfl,by simp[updB,hb]⟩
  ·rw[if_neg (by simpa using hb)]at e;cases a:l.findIdx? (λb=>decide (b.id=id)) with
   |none=>rw[a]at e;cases e
   |some k=>
    rw[a]at e;cases e;obtain⟨c,d,j⟩:=akk (f:=f) a;exact⟨c,d,by simp[updB,hb,j]⟩
def atO(id:Int)(f:Bx->Bx)(l:List Bx):(updB id f l).length=l.length:=by
 induction l with
 |nil=>rfl
 |cons b l a=>unfold updB;split<;>simp[a]
def aqV{id k:Int}{f:Bx->Bx}(a:∀b,(f b).id=b.id)(l:List Bx):(updB id f l).findIdx? (λb=>decide (b.id=k))=l.findIdx? (λb=>decide (b.id=k)):=by
 induction l with
 |nil=>rfl
 |cons b l c=>
  unfold updB;split
  ·rw[i!,i!,a]
  ·rw[i!,i!,c]
def kY(mod:Int):List Int->List Bx->List Bx
 | [],l=>l
 |id::r,l=>kY mod r (updB id (λb=>{b with mod:=mod}) l)
def alQ(mod id:Int):∀(r:List Int) (l:List Bx),kY mod (r++ [id]) l=updB id (λb=>{b with mod:=mod}) (kY mod r l)
 | [],_=>rfl
 |_::r,l=>alQ mod id r _
def alR{k mod:Int}:∀(r:List Int) (l:List Bx),(kY mod r l).findIdx? (λb=>decide (b.id=k))=l.findIdx? (λb=>decide (b.id=k))
 | [],_=>rfl
 |id::r,l=>(alR r _).trans (aqV (f:=λb=>{b with mod:=mod}) (λ_=>rfl) l)
def aqW(mod:Int):∀(r:List Int) (l:List Bx),(kY mod r l).length=l.length
 | [],_=>rfl
 |id::r,l=>(aqW mod r _).trans (atO _ _ l)
def qp(mod id:Int):En:={mod:=mod,kind:=1,id:=id,how:=2}
end Go.Im
namespace Go.Proofs.Im
section
variable{h h' g:Hp}{F I P:Pos->Prop}{ps pl ib:Pos}{A:Acc}{cb:Cap}{fb:Bool}{v vm vl:V}
def dV.aIm(a:dV h F ps A pl ib cb fb vm vl I){B:List Bx}(hl:B.length=A.boxes.length):dV (h.put ib (some (O (N 55 fb) (B.map gI).flatten))) F ps {A with boxes:=B} pl ib cb fb vm vl I:=by
 have c:Ch (λj=>j=ib) h (h.put ib (some (O (N 55 fb) (B.map gI).flatten))):=Ch.put _ _ rfl;have ne:=a.ne;refine⟨?_,a.lg.ch c λe=>ne.2.2 e,a.bx.put _,by show zO 6 (.slice ib 0 B.length cb);rw[hl];exact a.cap,?_,?_,a.ne,a.nm,a.nl,a.inn,a.foot,a.lt,a.enil⟩
 ·have e:stC {A with boxes:=B} ib cb vm pl=stC A ib cb vm pl:=by unfold stC;simp only[hl]
  rw[e];exact a.st.ch c λe=>ne.2.1 e
 ·obtain⟨b,x,d,r⟩:=a.ml;refine⟨b,x.mono λ_ _ e=>dG e c λj _ q=>⟨q,λe=>(a.inn j q).2.2.2.1 e⟩,d,r.imp id λ⟨i,f,rest,e,k⟩=>⟨i,f,rest,e,k.ch c λl=>?_⟩⟩;exact(a.nm i (by rw[e];rfl)).2.2.1 l
 ·obtain⟨b,x,d,s⟩:=a.en;exact⟨b,x.mono λ_ _ e=>e,d,s.ch c λj hj e=>(a.nl j hj).2.2 e⟩
def sZ{sz:Nat}{i:Pos}{n m:Nat}{c:Cap}(a:m<n)(g:Hp):bD sz (.slice i 0 n c) (Y U (m:Int)) g=D (X i (m*sz)) g:=by rw[zn a,y!]
def aQo(x:En)(h:Hp):bP 85 zEn 1 [(0,4,.agg (V.ofList (ja x)))] h=D (.slice h.next 0 1 (.kn 1)) (h.new (O (N 85 true) (ja x))):=(rfl)
def aCa(a b c d:Int)(h:Hp):bK zEn [(0,1,Y U a),(1,1,Y U b),(2,1,Y U c),(3,1,Y U d)] h=D (.agg (V.ofList (ja {mod:=a,kind:=b,id:=c,how:=d}))) h:=(rfl)
def dV.aOc(a:dV h F ps A pl ib cb fb vm vl I){k f:Nat}{b:Bx}(hk:A.boxes[k]?=some b)(i:f<6){y:Int}{b':Bx}(hb:(gI b).set f (iV y)=gI b'):
  aV 1 (X ib (k*6+f)) (iV y) h=D V.undef (h.put ib (some (O (N 55 fb) ((A.boxes.set k b').map gI).flatten))):=by
 have j:=(c!.1 hk).1;have e:∀d∈A.boxes.map gI,d.length=6:=λd hd=>by obtain⟨x,_,rfl⟩:=q!.1 hd;rfl
 have c:(A.boxes.map gI).flatten.length=A.boxes.length*6:=by rw[oD e,e!]
 rw[a.bx.st ⟨rfl,rfl⟩ (by rw[c];omega),avw e (by rw[I!,hk];rfl) i,hb,List.map_set]
def ail(a:dV h F ps A pl ib cb fb vm vl I)(hA:A.Small){p l:List Int}(r:Rws P (flat eu) 1 h v p)(hn:p.length<=12)(mod:Int)(hl:iJ ltI p.length p=l)(ai:∀(k:Nat) x y,l[k]?=some x->l[k+1]?=some y->x≠y)
  (hb:∀id∈l,∃i,A.boxes.findIdx? (λb=>decide (b.id=id))=some i):
  ∃w h',EN [X ps 0,iV mod,v] h=D w h'/\dV h' F ps {A with boxes:=kY mod l A.boxes} pl ib cb fb vm vl I/\Rws (λj=>h.next.nat<=j.nat) (flat ja) 4 h' w (l.map (qp mod))/\ahP w l.length/\Ch (λj=>j=ib) h h':=by
 obtain⟨w1,h1,e1,r1,c1,o1⟩:=akh r (by omega);have aq:l.length=p.length:=by rw[<-hl,CZ]
 have n1:=c1.next;have ap:=a.bx.2;have am:∃u m,o7 [w1] h1=D u m/\Rws (λj=>h.next.nat<=j.nat) (flat eu) 1 m w1 l/\Nw h m:=by
  rcases o1 with rfl|o1
  ·have:l= []:=by rw[<-hl];rfl
   rw[this];exact⟨_,h1,ain (r1.len h1),r1,c1⟩
  ·obtain⟨m,e2,o2,Z⟩:=amW o1 (by omega);rw[hl]at o2;exact⟨_,m,e2,o2.rows (aN _) (λ_ _ q=>q.elim) λ_ q _=>q,c1.then Z λj hj e=>by have:=(o1.fF e).1;omega⟩
 obtain⟨u,m,e2,r2,Z⟩:=am;have e3:=ato r2 (by omega) ai;have a2:=a.nw Z;have n2:=Z.next;rw[aqC];show aX j! _ (λw h'=>dV h' F ps {A with boxes:=kY mod l A.boxes} pl ib cb fb vm vl I/\Rws (λj=>h.next.nat<=j.nat) (flat ja) 4 h' w (l.map (qp mod))/\ahP w l.length/\Ch (λj=>j=ib) h h') _;simp(disch:=omega)only[vvB,seval,ajV,RD,acz,acy,acw,acv,e1,e2,e3,r2.len,adV];refine Oc.then (dO (σ:=V) (n:=l.length) (pi:=18) (pn:=17) (pc:=19) [0,1,8,16] (λo=> [X ps 0,iV mod,o,w1])
  (λk o g=>dV g F ps {A with boxes:=kY mod (l.take k) A.boxes} pl ib cb fb vm vl I/\dD m.next.nat (λ_=>False) (flat ja) 85 4 g o ((l.take k).map (qp mod))/\Ch (λj=>j=ib) m g)
  (A:=λfr g=>∃o,fr.get (g! 8)=some o/\dV g F ps {A with boxes:=kY mod l A.boxes} pl ib cb fb vm vl I/\dD m.next.nat (λ_=>False) (flat ja) 85 4 g o (l.map (qp mod))/\Ch (λj=>j=ib) m g) (B:=λ_ _=>False) (s:=.aQ)
  (λfr h _ k e1 e2=>by simp only[vvB,seval,acu,e1,e2]) (λfr h k _ e1=>by simp(disch:=omega)only[vvB,seval,aco,e1]) (by decide) (by rw[dP];omega) (qK0) (qK0) (by simp only[Fa,vvB,seval,and_self])
  ⟨a2,dD.nil _ _ _ _ _ _,Ch.refl _ _⟩ ?_ ?_) ?_ ?_
 ·intro k o fr g hk aa ae fa hI;obtain⟨f0,f1,f8,Q,-⟩:=fa;obtain⟨C,t,M⟩:=hI;obtain⟨id,z⟩:∃id,l[k]?=some id:=⟨_,a! hk⟩
  obtain⟨i,q,cs,e4,ex,-,-,-,l4,-⟩:=(r2.ch (P':=λ_=>True) (aN _) M λj hj pj=>⟨trivial,λe=>by rw[e]at pj;omega⟩).elt z;obtain rfl:cs=eu id:=ex;have L4:aG (X i q) g=D (iV id) g:=l4 g rfl 0 _ rfl;obtain⟨bi,S⟩:=hb id (b! z);have G:(kY mod (l.take k) A.boxes).findIdx? (λb=>decide (b.id=id))=some bi:=by rw[alR];exact S
  obtain⟨b,ab,af⟩:=akk (f:=λb=>{b with mod:=mod}) G;have aj:({A with boxes:=kY mod (l.take k) A.boxes}:Acc).Small:=⟨hA.clock,by show 0<(kY mod (l.take k) A.boxes).length/\_;rw[aqW];exact hA.boxes,hA.mails,hA.ents,hA.each⟩
  obtain⟨g2,e5,c5⟩:=aaJ C aj id;simp only[G,gB]at e5;have J:=C.nw c5;have Lb:=J.st.ld (q:=10) (x:=.slice ib 0 (kY mod (l.take k) A.boxes).length cb) rfl;have ac:=C.st.ld (q:=10) (x:=.slice ib 0 (kY mod (l.take k) A.boxes).length cb) rfl;have ah:=(c!.1 ab).1;obtain⟨E,W⟩:∃E,E=g2.put ib (some (O (N 55 fb) (((kY mod (l.take k) A.boxes).set bi {b with mod:=mod}).map gI).flatten)):=⟨_,rfl⟩
  have S3:aV 1 (X ib (bi*6+5)) (iV mod) g2=D V.undef E:=by rw[W];exact J.aOc ab (by omega) rfl
  have ad:dV E F ps {A with boxes:=kY mod (l.take (k+1)) A.boxes} pl ib cb fb vm vl I:=by
   rw[take_snoc z,alQ,af,W];exact J.aIm (by rw[List.length_set])
  have L:Ch (λj=>j=ib) g2 E:=by rw[W];exact Ch.put _ _ rfl
  have ao:=M.next;have n5:=c5.next;have av:=L.next;have al:dD m.next.nat (λ_=>False) (flat ja) 85 4 E o ((l.take k).map (qp mod)):=(t.nw (aN _) c5).ch (aN _) L (λj hj e=>by have:=(t.fF hj).1;rw[e]at this;omega) λ_ _ q=>q.elim;obtain⟨o',g4,e6,o6,c6,n6,ar⟩:=al.apP (bt:=32) (x:=qp mod id) (by omega) rfl (by simp;omega);have e6:bZ 85 4 32 o (.slice E.next 0 1 (.kn 1)) (E.new (O (N 85 true) (ja {mod:=mod,kind:=1,id:=id,how:=2})))=D o' g4:=e6;simp(disch:=omega)only[vvB,seval,acs,acr,acp,f0,f1,f8,Q,aa,e4,L4,e5,Lb,sN rfl ac,sZ ah,S3,aCa,aQo,e6];refine⟨qK2 aa,qK2 ae,o',by simp only[Fa,vvB,seval,f0,f1,Q,and_self],ad.ch c6 λj f e=>by have:=a2.lt j f;have:=(t.fF e).1;omega,?_,?_⟩
  ·rw[take_snoc z,h!];exact o6
  ·exact((M.nw c5).trans L λ_ _ q=>q).trans c6 λj hj e=>by have:=(t.fF e).1;omega
 ·intro o fr g fa hI;obtain⟨f0,f1,f8,Q,-⟩:=fa;obtain⟨C,t,M⟩:=hI;rw[d!]at C t;exact⟨o,f8,C,t,M⟩
 ·rintro fr g ⟨o,f8,C,t,M⟩;have ol:=t.len g;rw[e!]at ol;have fin:∃w,eP 4 o none (some (Y U (l.length:Int))) (some (Y U (l.length:Int))) g=D w g/\Rws (λj=>h.next.nat<=j.nat) (flat ja) 4 g w (l.map (qp mod))/\ahP w l.length:=by
   by_cases hz:l= []
   ·obtain⟨an,x,hw,s⟩:=t;rcases s.is with⟨_,rfl⟩|⟨i,rfl,S,hi,f,hg⟩
    ·subst hz;exact⟨.aQ,rfl,Rws.aQ _ _ _ _,.inl ⟨rfl,rfl⟩⟩
    ·subst hz;refine⟨.slice i 0 0 (.kn 0),by simp only[List.map_nil,List.length_nil];rfl,?_,.inr ⟨i,rfl⟩⟩;cases x;exact⟨[],.nil,λ_ q=>(by cases q),⟨by simp,.inr ⟨i,0,_,N 85 f,_,rfl,hi,by rw[hg];rfl,λk hk=>by simp at hk⟩⟩,λ_ _ _ _ e=>(by cases e;exact u! _),λj hj=>by cases hj;show h.next.nat<=i.nat;omega⟩
   ·have ak:l.map (qp mod)≠ []:=by simpa using hz
    obtain⟨i,f,rfl,S,kk⟩:=t.open ak;rw[e!] at*;refine⟨.slice i 0 l.length (.kn l.length),?_,?_,.inr ⟨i,rfl⟩⟩
    ·show(match o! l.length l.length,o! l.length l.length,o! 0 l.length with
      |true,true,true=>eG (moved 4 0 0 l.length) λq=>eG (l.length - 0) λn=>R.ok (V.slice i q n (.kn (l.length - 0))) g
      |_,_,_=>.bad)=_
     rw[C! (u! _),C! (L! _)];simp only[dF];have hm:moved 4 0 0 l.length=0:=by unfold moved;split<;>rfl
     rw[hm,Nat.sub_zero]
    ·have au:∀d∈(l.map (qp mod)).map ja,d.length=4:=λd hd=>by obtain⟨x,_,rfl⟩:=q!.1 hd;rfl
     have:=Kn.rws (c:=ja) (sz:=4) (l:=l.map (qp mod)) (cp:=.kn l.length) kk (λ_=>rfl) (λ_ _ _ _ e=>by cases e;simp);rw[e!]at this;exact this.mono (aN _) λj _ e=>by rw[e];omega
  obtain⟨w,e7,r7,f7⟩:=fin;simp(disch:=omega)only[vvB,seval,YV,f8,ol,e7];exact aX.ret (r:=w) (qT0) ⟨C,r7,f7,Ch.trans (Z.ch) M λ_ _ q=>q⟩
 ·intro fr g q;exact q.elim
end
end Go.Proofs.Im
namespace Go.Im
structure Acc.Logged (A:Acc):Prop where
 mods:∀e∈A.ents,e.mod<=A.clock
structure Ml.In (A:Acc) (m:Ml):Prop where
 sorted:iJ ltI (m.mem.map (·.1)).length (m.mem.map (·.1))=m.mem.map (·.1)
 nodup:∀(k:Nat) x y,(m.mem.map (·.1))[k]?=some x->(m.mem.map (·.1))[k+1]?=some y->x≠y
 there:∀id∈m.mem.map (·.1),∃i,A.boxes.findIdx? (λb=>decide (b.id=id))=some i
 few:m.mem.length<=12
end Go.Im
namespace Go.Proofs.Im
section
variable{h h':Hp}{F I P:Pos->Prop}{ps pl ib:Pos}{A:Acc}{cb:Cap}{fb:Bool}{vm vl:V}
def dV.aIf(a:dV h F ps A pl ib cb fb vm vl I){es:List En}{b:V}(k:Kn h' pl (O (N 130 true) [iV 10000,b,iV A.floor]))(o:dD 0 (λ_=>False) (flat ja) 85 4 h' b (A.ents++es))
  (c:Ch (λj=>j=pl\/bV vl=some j) h h') (m:∀j,bV b=some j->bV vl=some j\/h.next.nat<=j.nat) (l:es≠ []):dV h' (λj=>F j\/bV b=some j) ps {A with ents:=A.ents++es} pl ib cb fb vm b I where
 st:=a.st.ch c λe=>e.elim a.ne.1 λe=>(a.nl ps e).1 rfl
 lg:=k
 bx:=a.bx.ch c λe=>e.elim (λe=>a.ne.2.2 e.symm) λe=>(a.nl ib e).2.2 rfl
 cap:=a.cap
 ml:=by
  obtain⟨d,x,n,r⟩:=a.ml;exact⟨d,x.mono λ_ _ e=>dG e c λj _ q=>⟨q,λe=>e.elim (a.inn j q).2.2.1 (a.inn j q).2.2.2.2.2⟩,n,r.imp id λ⟨i,f,rest,e,k⟩=>⟨i,f,rest,e,k.ch c λg=>g.elim (a.nm i (by rw[e];rfl)).2.1 (a.nm i (by rw[e];rfl)).2.2.2⟩⟩
 en:=o
 ne:=a.ne
 nm:=λj e=>⟨(a.nm j e).1,(a.nm j e).2.1,(a.nm j e).2.2.1,λg=>(m j g).elim (a.nm j e).2.2.2 λq=>by have:=a.lt j (a.foot.2.2.2.1 j e);omega⟩
 nl:=λj e=>(m j e).elim (a.nl j) λq=>⟨λe=>by rw[e]at q;have:=a.st.2;omega,λe=>by rw[e]at q;have:=a.lg.2;omega,λe=>by rw[e]at q;have:=a.bx.2;omega⟩
 inn:=λj q=>⟨.inl (a.inn j q).1,(a.inn j q).2.1,(a.inn j q).2.2.1,(a.inn j q).2.2.2.1,(a.inn j q).2.2.2.2.1,λe=>(m j e).elim (a.inn j q).2.2.2.2.2 λq'=>by have:=a.lt j (a.inn j q).1;omega⟩
 foot:=⟨.inl a.foot.1,.inl a.foot.2.1,.inl a.foot.2.2.1,λj e=>.inl (a.foot.2.2.2.1 j e),λj e=>.inr e⟩
 lt:=λj q=>q.elim (λq=>G! (a.lt j q) c.next) λe=>(o.fF e).2
 enil:=λe=>absurd (List.append_eq_nil_iff.1 e).2 l
def dV.add(a:dV h F ps A pl ib cb fb vm vl I){es:List En}{w:V}(r:Rws P (flat ja) 4 h w es)(g:∀j:Pos,j.nat<h.next.nat->P j->¬F j){c:Int}(m:∀e∈es,e.mod=c)(hl:∀e∈A.ents,e.mod<=c)(hn:A.ents.length+es.length<=10000)(d:es≠ []):
  ∃u h' b,NT [X pl 0,w] h=D u h'/\dV h' (λj=>F j\/bV b=some j) ps {A with ents:=A.ents++es} pl ib cb fb vm b I/\Ch F h h'/\(∀j,bV b=some j->F j\/h.next.nat<=j.nat):=by
 obtain⟨u,h',b,e,k,o,f,i⟩:=awq a.lg a.en r (λj e=>(a.nl j e).2.1) (λj hj l=>⟨λe=>g j hj l (by rw[e];exact a.foot.2.1),λe=>g j hj l (a.foot.2.2.2.2 j e)⟩) m hl hn;exact⟨u,h',b,e,a.aIf k o f i d,f.mono λj _ q=>q.elim (λe=>by rw[e];exact a.foot.2.1) (a.foot.2.2.2.2 j),λj e=>(i j e).imp (a.foot.2.2.2.2 j) id⟩
def dV.aQk(a:dV h F ps A pl ib cb fb vm vl I){k:Nat}{m:Ml}(d:A.mails[k]?=some m):∃im f rest b vk vs,vm=.slice im 0 A.mails.length (.un 8)/\Kn h im (O (N 40 f) (b.flatten++rest))/\All2 (jo I h) A.mails b/\(∀c∈b,c.length=8)/\
  b[k]?=some (dL m vk vs)/\Rws I (flat jT) 1 h vk m.keys/\Rws I (flat dK) 2 h vs m.mem:=by
 obtain⟨b,x,i,r⟩:=a.ml;obtain⟨c,g,vk,vs,rfl,rk,j⟩:=x.get d;rcases r with⟨h0,_⟩|⟨im,f,rest,e,kk⟩
 ·rw[h0]at d;simp at d
 ·exact⟨im,f,rest,b,vk,vs,e,kk,x,i,g,rk,j⟩
end
section
variable{h:Hp}
def aNR{im:Pos}{w:Wr}{a:List (List V)}{rest c:List V}{k:Nat}(j:Kn h im (O w (a.flatten++rest)))(g:∀c∈a,c.length=8)(b:a[k]?=some c):cO 8 (X im (k*8)) h=D (.agg (V.ofList c)) h:=by
 have hk:=(c!.1 b).1;have hl:=oD g;have e:=ahp g b;have d:=g c (b! b);show dR h im (λ_ cs=>match gJ 8 (fG (k*8) cs) with|some l=>R.ok (V.agg (V.ofList l)) h|none=>.bad)=_;rw[dM (wr:=w) (all:=a.flatten++rest) (by rw[j.1];rfl),Bc (cs:=c) (λf i=>?_) d];rw[List.getElem?_append_left (by omega),<-e,List.getElem?_take,if_pos i,List.getElem?_drop]
end
abbrev zSt:List V:= [H [],H [],Y U 0,Y U 0,Y U 0,Y U 0,Y U 0,Y U 0,Y U 0,Y U 0,.aQ,.aQ,.cZ,Y U 0,Y U 0,Y U 0]
end Go.Proofs.Im
namespace Go.Im
def _root_.Go.Vm.All2.eraseIdx{α:Type}{R:α->List V->Prop}{l:List α}{cs:List (List V)}(a:All2 R l cs)(n:Nat):All2 R (l.eraseIdx n) (cs.eraseIdx n):=by
 rw[r!,r!];exact(a.take n).append (a.drop (n+1))
def SI(A:Acc)(k:Nat)(m:Ml):Int:=if(A.mails.eraseIdx k).any (λx=>decide (x.thread=m.thread)) then 2 else 3
def akQ(A:Acc)(k:Nat)(m:Ml):Acc:=
 {clock:=A.clock+1
  mails:=A.mails.eraseIdx k
  boxes:=kY (A.clock+1) (m.mem.map (·.1)) A.boxes
  ents:=A.ents++((m.mem.map (·.1)).map (qp (A.clock+1))++ [(⟨A.clock+1,2,m.id,3⟩:En),⟨A.clock+1,3,m.thread,SI A k m⟩])
  floor:=A.floor
  lastBox:=A.lastBox
  lastId:=A.lastId
  octets:=A.octets - (m.text.length:Int)}
end Go.Im
namespace Go.Proofs.Im
section
variable{h h' g:Hp}{F I:Pos->Prop}{ps pl ib p:Pos}{A:Acc}{cb:Cap}{fb:Bool}{v vm vl:V}
def dV.aPP(a:dV h F ps A pl ib cb fb vm vl I){k:Nat}{im:Pos}{f:Bool}{d:List V}{b:List (List V)}(e:vm=.slice im 0 A.mails.length (.un 8))(x:All2 (jo I h) A.mails b)
  (u:∀c∈b,c.length=8) (hk:k<A.mails.length) (w:Kn g im (O (N 40 f) ((b.eraseIdx k).flatten++d))) (c:Ch (λj=>j=im) h g):
  dV (g.put ps (some (O (N 78 true) (stC A ib cb (.slice im 0 (A.mails.length - 1) (.un 8)) pl)))) F ps {A with mails:=A.mails.eraseIdx k} pl ib cb fb (.slice im 0 (A.mails.length - 1) (.un 8)) vl I:=by
 have i:bV vm=some im:=by rw[e];rfl
 have nm:=a.nm im i;have ks:Kn g ps (O (N 78 true) (stC A ib cb vm pl)):=a.st.ch c λe=>nm.1 e.symm;have r:Ch (λj=>j=ps) g (g.put ps (some (O (N 78 true) (stC A ib cb (.slice im 0 (A.mails.length - 1) (.un 8)) pl)))):=Ch.put _ _ rfl;have l:Ch (λj=>j=im\/j=ps) h (g.put ps (some (O (N 78 true) (stC A ib cb (.slice im 0 (A.mails.length - 1) (.un 8)) pl)))):=(c.mono λ_ _ e=>.inl e).trans r λ_ _ e=>.inr e;have ne:=a.ne;refine⟨ks.put _,a.lg.ch l λe=>e.elim (λe=>nm.2.1 e.symm) λe=>ne.1 e.symm,a.bx.ch l λe=>e.elim (λe=>nm.2.2.1 e.symm) λe=>ne.2.1 e.symm,a.cap,?_,?_,a.ne,?_,a.nl,?_,?_,?_,a.enil⟩
 ·have s:∀j,I j->¬(j=im\/j=ps):=λj q e=>e.elim (λe=>(a.inn j q).2.2.2.2.1 (by rw[e];exact i)) (a.inn j q).2.1;have o:∀c∈b.eraseIdx k,c.length=8:=λc t=>u c (x! t);refine⟨b.eraseIdx k,(x.eraseIdx k).mono λ_ _ e=>dG e l λj _ q=>⟨q,s j q⟩,o,.inr ⟨im,f,d,?_,w.ch r nm.1⟩⟩;rw[v! hk]
 ·obtain⟨m,z,n,y⟩:=a.en;exact⟨m,z.mono λ_ _ e=>e,n,y.ch l λj hj e=>e.elim (λe=>by rw[e]at hj;exact nm.2.2.2 hj) (a.nl j hj).1⟩
 ·intro j q;cases q;exact nm
 ·intro j q;have:=a.inn j q;rw[i]at this;exact this
 ·exact⟨a.foot.1,a.foot.2.1,a.foot.2.2.1,λj q=>by cases q;exact a.foot.2.2.2.1 im i,a.foot.2.2.2.2⟩
 ·exact λj q=>G! (a.lt j q) l.next
def asV{m:Ml}{vk vs:V}{p:Pos}{w:Wr}{x:Ml}{a xs:V}(k:Kn g p (O w (dL m vk vs))):y9 [.agg (V.ofList (dL x a xs)),X p 0] g=D (K (decide (x.thread=m.thread))) (g.new (O (N 40 true) (dL x a xs))):=by
 have e1:=(Kn.new g (O (N 40 true) (dL x a xs))).ld (q:=1) (x:=iV x.thread) rfl;have e2:=(k.add (O (N 40 true) (dL x a xs))).ld (q:=1) (x:=iV m.thread) rfl;rw[alE];simp only[vvB,seval,adO,WA,Wy,V.dB,e1,e2];simp only[bU,bT,vvB,seval,bW]
def apK(p:Pos)(x:V)(g:Hp):dn kV (.func (.func 52) .nil (.cons (X p 0) .nil)) [x] g=y9 [x,X p 0] g:=(rfl)
abbrev aQg:List V:= [Y U 0,Y U 0,Y U 0,Y U 0,Y U 0,Y U 0,Y U 0,Y U 0]
def aC5(a b c d a' b' e f:Int):eH 85 aQg 2 [(0,4,.agg (V.ofList (ja {mod:=a,kind:=b,id:=c,how:=d}))),(4,4,.agg (V.ofList (ja {mod:=a',kind:=b',id:=e,how:=f})))]=
  some (O (N 85 true) (([({mod:=a,kind:=b,id:=c,how:=d}:En),{mod:=a',kind:=b',id:=e,how:=f}].map ja).flatten),λp=>.slice p 0 2 (.kn 2)):=(rfl)
def awn(a:dV h F ps A pl ib cb fb vm vl I)(z:A.Small)(hL:A.Logged){k:Nat}{m:Ml}(hm:A.mails[k]?=some m)(hf:A.mails.findIdx? (λx=>decide (x.id=m.id))=some k)(s:m.In A)(aB:A.ents.length<=8000)(bn:A.clock<900000)(ho:0<=A.octets/\A.octets<1000000000)(bo:m.text.length<1000000000):
  ∃h' F' bj L I',wQ [X ps 0,iV m.id] h=D (iV 0) h'/\dV h' F' ps (akQ A k m) pl ib cb fb bj L I'/\Ch F h h'/\∀j,F' j->F j\/h.next.nat<=j.nat:=by
 have aM:=z.each m (b! hm);have hk:=(c!.1 hm).1;have av:=z.mails;obtain⟨h1,e1,c1⟩:=aE2 a z m.id;rw[hf]at e1;simp only[gB]at e1;have a1:=a.nw c1;have e4:=arL a1 z;have e5:=arK a1 z;obtain⟨w,aa⟩:∃w,w=h1.put ps (some (O (N 78 true) (stC {A with clock:=A.clock+1} ib cb vm pl))):=⟨_,rfl⟩
 rw[<-aa]at e5;have a3:dV w F ps {A with clock:=A.clock+1} pl ib cb fb vm vl I:=by rw[aa];exact a1.al1 rfl rfl rfl rfl
 have c3:Ch (λj=>j=ps) h1 w:=by rw[aa];exact Ch.put _ _ rfl
 have n1:=c1.next;have n3:=c3.next;obtain⟨im,f,rest,ai,vk,vs,aR,km,x,hw,hc,rk,rs⟩:=a3.aQk (m:=m) hm;have L3:=a3.st.ld (q:=11) (x:=vm) rfl;have Ix:=λg=>sZ (sz:=8) (i:=im) (c:=.un 8) hk g;have t:vm=.slice im 0 A.mails.length (.un 8):=aR;rw[<-t]at Ix;have N3:=aNR km hw hc;obtain⟨h4,aE,c4,k4⟩:=mkW w (O (N 40 true) (dL m vk vs));have S4:=mkT 8 zMl aE;have n4:=c4.next;have a4:=a3.nw c4;have a2:=km.nw c4;have L4:=a4.st.ld (q:=11) (x:=vm) rfl;have ap:ai.length=A.mails.length:=x.len;obtain⟨h5,bh,e6,k5,c5⟩:=atn (i:=k) a2 hw (by omega) (by have:=z.mails;omega);rw[ap,<-t]at e6;have x4:All2 (jo I h4) A.mails ai:=x.mono λ_ _ e=>dG e c4 λj _ q=>⟨q,λq=>q⟩
 obtain⟨E,ac⟩:∃E,E=h5.put ps (some (O (N 78 true) (stC {A with clock:=A.clock+1} ib cb (.slice im 0 (A.mails.length - 1) (.un 8)) pl))):=⟨_,rfl⟩
 have ae:bV vm=some im:=by rw[t];rfl
 have nm:=a.nm im ae;have a5:Kn h5 ps (O (N 78 true) (stC {A with clock:=A.clock+1} ib cb vm pl)):=a4.st.ch c5 λe=>nm.1 e.symm;have S6:aV 1 (X ps 11) (.slice im 0 (A.mails.length - 1) (.un 8)) h5=D V.undef E:=by rw[ac];exact a5.st (q:=11) ⟨rfl,rfl⟩ (show 11<16 by omega)
 have a6:=a4.aPP (k:=k) t x4 hw hk k5 c5;have aq:h5.put ps (some (O (N 78 true) (stC {A with clock:=A.clock+1} ib cb (.slice im 0 (A.mails.length - 1) (.un 8)) pl)))=E:=ac.symm;rw[aq]at a6;have c6:Ch (λj=>j=ps) h5 E:=by rw[ac];exact Ch.put _ _ rfl
 have n5:=c5.next;have n6:=c6.next;have k6:=(k4.ch c5 λe=>by have:=km.2;rw[<-e]at this;omega).ch c6 λe=>by have:=a3.st.2;rw[<-e]at this;omega
 have L6:=a6.st.ld (q:=15) (x:=iV A.octets) rfl;have T6:=k6.ld (q:=2) (x:=H m.text) rfl;obtain⟨h7,ad⟩:∃h7,h7=E.put ps (some (O (N 78 true) (stC {A with clock:=A.clock+1,octets:=A.octets - (m.text.length:Int)} ib cb (.slice im 0 (A.mails.length - 1) (.un 8)) pl))):=⟨_,rfl⟩
 have S7:aV 1 (X ps 15) (iV (A.octets - (m.text.length:Int))) E=D V.undef h7:=by rw[ad];exact a6.st.st (q:=15) ⟨rfl,rfl⟩ (show 15<16 by omega)
 have a7:dV h7 F ps {A with clock:=A.clock+1,mails:=A.mails.eraseIdx k,octets:=A.octets - (m.text.length:Int)} pl ib cb fb (.slice im 0 (A.mails.length - 1) (.un 8)) vl I:=by
  rw[ad];exact a6.al1 (B:={A with clock:=A.clock+1,mails:=A.mails.eraseIdx k,octets:=A.octets - (m.text.length:Int)}) rfl rfl rfl rfl
 have c7:Ch (λj=>j=ps) E h7:=by rw[ad];exact Ch.put _ _ rfl
 have n7:=c7.next;have k7:=k6.ch c7 λe=>by have:=a3.st.2;rw[<-e]at this;omega
 have an:({A with clock:=A.clock+1,mails:=A.mails.eraseIdx k,octets:=A.octets - (m.text.length:Int)}:Acc).Small:=⟨by have:=z.clock;exact⟨by show 0<=A.clock+1;omega,by show A.clock+1<1000000;omega⟩,z.boxes,by show(A.mails.eraseIdx k).length<=1000;rw[v! hk];have:=z.mails;omega,z.ents,λy hy=>z.each y (x! hy)⟩
 have L7:=a7.st.ld (q:=11) rfl;obtain⟨u,e8,c8⟩:=aeh a7.ml.rws dG (λy=>decide (y.thread=m.thread)) (by have:=an.mails;omega) (f:=.func (.func 52) .nil (.cons (X w.next 0) .nil)) (λy cs g _ cg e _=>by
  obtain⟨yk,ys,rfl,-,-⟩:=e;rw[apK,asV (k7.nw cg)];exact⟨_,rfl,Nw.new _ _⟩)
 have k8:=k7.nw c8;have n8:=c8.next;have ab:=(a7.nw c8).nw (Nw.bump 1 u);have kb:=k8.bump 1;have nb:(aK 1 u).next.nat=u.next.nat+1:=Dk _ _;have ay:Ch F w (aK 1 u):=by
  refine⟨by omega,λj hj hn=>?_⟩;have q4:=c4.get j hj λq=>q
  have q5:=c5.get j (by omega) λe=>hn (by rw[e];exact a.foot.2.2.2.1 im ae);have q6:=c6.get j (by omega) λe=>hn (by rw[e];exact a.foot.1);have q7:=c7.get j (by omega) λe=>hn (by rw[e];exact a.foot.1);have q8:=c8.get j (by omega) λq=>q;show u.get j=_;rw[q8,q7,q6,q5,q4]
 have ao:∀j,I j->¬(j=im\/j=ps):=λj q e=>e.elim (λe=>(a.inn j q).2.2.2.2.1 (by rw[e];exact ae)) (a.inn j q).2.1;have ah:Ch (λj=>j=im\/j=ps) w (aK 1 u):=by
  refine⟨by omega,λj hj hn=>?_⟩;have q4:=c4.get j hj λq=>q
  have q5:=c5.get j (by omega) λe=>hn (.inl e);have q6:=c6.get j (by omega) λe=>hn (.inr e);have q7:=c7.get j (by omega) λe=>hn (.inr e);have q8:=c8.get j (by omega) λq=>q;show u.get j=_;rw[q8,q7,q6,q5,q4]
 have xm:jo I (aK 1 u) m (dL m vk vs):=⟨vk,vs,rfl,rk.ch (aN _) ah λj _ q=>⟨q,ao j q⟩,rs.ch (aN _) ah λj _ q=>⟨q,ao j q⟩⟩
 obtain⟨wi,h9,e9,o9,c9⟩:=ayl xm aM.2;have a9:=ab.nw c9;have n9:=c9.next;have bl:=s;obtain⟨bk,G,aj,P,be,az,S⟩:=ail a9 an (o9.rws (aN _)) (by rw[e!];exact s.few) (A.clock+1) s.sorted s.nodup s.there;have bp:=S.next;have au:Kn G w.next (O (N 40 true) (dL m vk vs)):=(kb.nw c9).ch S λe=>by have:=a3.bx.2;rw[<-e]at this;omega
 obtain⟨how,C⟩:∃how,how=SI A k m:=⟨_,rfl⟩
 obtain⟨o,b⟩:∃o:List En,o= [({mod:=A.clock+1,kind:=2,id:=m.id,how:=3}:En),{mod:=A.clock+1,kind:=3,id:=m.thread,how:=how}]:=⟨_,rfl⟩
 obtain⟨r,d⟩:∃r,r=G.put u.next (some (O (N 85 true) (o.map ja).flatten)):=⟨_,rfl⟩
 have W:Ch (λj=>j=u.next) G r:=by rw[d];exact Ch.put _ _ rfl
 have bq:r.next.nat=G.next.nat:=by rw[d];rfl
 have a0:Kn r u.next (O (N 85 true) (o.map ja).flatten):=by rw[d];exact⟨jZ _ _ _,by rw[jJ];omega⟩
 have aw:=P.ch W λj f e=>by have:=a7.lt j f;rw[e]at this;omega
 have bf:=be.ch (P':=λj=>h9.next.nat<=j.nat) (aN _) W λj _ q=>⟨q,λe=>by rw[e]at q;omega⟩
 have J:o.length=2:=by rw[b];rfl
 have bi:Rws (λj=>j=u.next) (flat ja) 4 r (.slice u.next 0 2 (.kn 2)) o:=by
  have:=Kn.rws (c:=ja) (l:=o) (cp:=.kn 2) (sz:=4) a0 (λ_=>rfl) (λ_ _ _ _ e=>by cases e;exact Nat.le_of_eq J);rwa[J]at this
 have aD:ahP bk ((m.mem.map (·.1)).map (qp (A.clock+1))).length:=by rw[e!];exact az
 obtain⟨bv,bm,ak,a8,Z⟩:=apO (el:=85) (bt:=32) bf aD bi (by rw[b];simp) (by rw[J];simp;have:=s.few;omega);have Q:=aw.nw Z;have br:=Z.next;have M:∀{g:Hp} {F:Pos->Prop} {B:Acc} {vm vl:V} {I:Pos->Prop},dV g F ps B pl ib cb fb vm vl I->aG (X ps 12) g=D (X pl 0) g:=λa=>a.st.ld (q:=12) rfl;have Th:∀{g:Hp},Kn g w.next (O (N 40 true) (dL m vk vs))->aG (X w.next 1) g=D (iV m.thread) g:=λk=>k.ld (q:=1) rfl;have bg:=a8.rows (P':=λj=>r.next.nat<=j.nat) (aN _) (λ_ _ q=>q.elim) λ_ q _=>q;obtain⟨bu,am,L,al,ax,ag,ar⟩:=Q.add bg (λj _ pj fj=>by have:=a7.lt j fj;omega) (c:=A.clock+1) (λe he=>by
  rcases l!.1 he with q|q
  ·obtain⟨id,_,rfl⟩:=q!.1 q;rfl
  ·rw[b]at q;simp at q;rcases q with q|q<;>rw[q]) (λe he=>by have:=hL.mods e he;omega) (by rw[n!,e!,J];have:=s.few;show A.ents.length+_<=10000;simp;omega) (by rw[b];simp)
 have bs:=ag.next;have Nb:=kb.ldN (n:=8) rfl;have aL:aZ 1 (H m.text) E=D (Y U (m.text.length:Int)) E:=aeK _;have fin:wQ [X ps 0,iV m.id] h=D (iV 0) am:=by
  rw[aoH];by_cases ht:(A.mails.eraseIdx k).any (λx=>decide (x.thread=m.thread))=true
  ·have af:how=2:=by rw[C];unfold SI;rw[if_pos ht]
   rw[ht]at e8;rw[af]at b;rw[b]at d;simp(disch:=omega)only[vvB,seval,U6,awX,MN,ML,MK,MJ,MI,MH,IW,IV,IU,IQ,WB,IL,awX,fM,e1,e4,e5,L3,Ix,N3,S4,L4,e6,S6,L6,T6,S7,L7,e8,Nb,e9,aj,aCa,Th au,avR (v:=iV m.thread) rfl (Th (kb.nw c9)) (Th kb),aC5,<-d,ak,M Q,aN9 (v:=X pl 0) rfl (M P) (M a9) (M ab),al];simp only[bU,bT,vvB,seval,bW]<;>rfl
  ·have af:how=3:=by rw[C];unfold SI;rw[if_neg ht]
   rw[show(A.mails.eraseIdx k).any (λx=>decide (x.thread=m.thread))=false by simpa using ht]at e8;rw[af]at b;rw[b]at d;simp(disch:=omega)only[vvB,seval,U6,awX,MN,ML,MK,MJ,MI,MH,IW,IV,IU,IQ,IL,awX,fM,e1,e4,e5,L3,Ix,N3,S4,L4,e6,S6,L6,T6,S7,L7,e8,Nb,e9,aj,aCa,Th au,avR (v:=iV m.thread) rfl (Th (kb.nw c9)) (Th kb),aC5,<-d,ak,M Q,aN9 (v:=X pl 0) rfl (M P) (M a9) (M ab),al];simp only[bU,bT,vvB,seval,bW]<;>rfl
 refine⟨am,λj=>F j\/bV L=some j,.slice im 0 (A.mails.length - 1) (.un 8),L,I,fin,?_,?_,?_⟩
 ·have:akQ A k m={({A with clock:=A.clock+1,mails:=A.mails.eraseIdx k,octets:=A.octets - (m.text.length:Int),boxes:=kY (A.clock+1) (m.mem.map (·.1)) A.boxes}:Acc) with ents:=A.ents++((m.mem.map (·.1)).map (qp (A.clock+1))++o)}:=by rw[b,C];rfl
  rw[this];exact ax
 ·refine⟨by omega,λj hj hn=>?_⟩;have q1:=c1.get j hj λq=>q
  have q3:=c3.get j (by omega) λe=>hn (by rw[e];exact a.foot.1);have qb:=ay.get j (by omega) hn;have q9:=c9.get j (by omega) λq=>q;have ba:=S.get j (by omega) λe=>hn (by rw[e];exact a.foot.2.2.1);have bb:=W.get j (by omega) λe=>by rw[e]at hj;omega
  have bc:=Z.get j (by omega) λq=>q;have bd:=ag.get j (by omega) hn;rw[bd,bc,bb,ba,q9,qb,q3,q1]
 ·intro j q;rcases q with q|q
  ·exact .inl q
  ·rcases ar j q with q|q
   ·exact .inl q
   ·exact .inr (by omega)
end
end Go.Proofs.Im
namespace Go.Im
def Wn(l:List Ml)(box:Int):List (Int×Ml):=l.flatMap λm=>(m.mem.filter λx=>decide (x.1=box)).map λx=>(x.2,m)
def thC(x:Int×Ml)(vk vs:V):List V:=iV x.1::dL x.2 vk vs
def D5:El (Int×Ml):=λP h x cs=>∃vk vs,cs=thC x vk vs/\Rws P (flat jT) 1 h vk x.2.keys/\Rws P (flat dK) 2 h vs x.2.mem
def eF:D5.Stable:=λ⟨vk,vm,e,a,b⟩ c d=>⟨vk,vm,e,a.ch (aN _) c d,b.ch (aN _) c d⟩
def aOn{l:List Ml}{box:Int}(b:∀m∈l,m.mem.length<=1000):(Wn l box).length<=l.length*1000:=by
 induction l with
 |nil=>simp[Wn]
 |cons a l c=>
  have:=c λm q=>b m (by simp[q]);have d:=b a (by simp);have e:(a.mem.filter λx=>decide (x.1=box)).length<=a.mem.length:=A! _ _;simp only[Wn,List.flatMap_cons,n!,e!,List.length_cons] at*;omega
def aJZ(l:List Ml)(m:Ml)(box:Int):Wn (l++ [m]) box=Wn l box++(m.mem.filter λx=>decide (x.1=box)).map λx=>(x.2,m):=by simp[Wn]
end Go.Im
namespace Go.Vm
def dD.wide{α:Type}{b b':Nat}{P P':Pos->Prop}{E:El α}{el:TypeId}{w:Nat}{h:Hp}{v:V}{l:List α}(r:dD b P E el w h v l)(d:E.Stable)(hb:b'<=b)(e:∀j:Pos,j.nat<h.next.nat->P j->P' j):dD b' P' E el w h v l:=by
 obtain⟨c,a,f,s⟩:=r.mono d e;exact⟨c,a,f,s.base λj hj=>Nat.le_trans hb (s.fF hj).1⟩
end Go.Vm
namespace Go.Proofs.Im
section
variable{h h' g:Hp}{F I:Pos->Prop}{ps pl ib:Pos}{A:Acc}{cb:Cap}{fb:Bool}{vm vl:V}
abbrev zTh:List V:= [Y U 0,Y U 0,Y U 0,H [],Y U 0,.aQ,.aQ,Y U 0,Y U 0]
def aDG(a:Int)(h:Hp):nM [iV a] h=D (K false) h:=by
 rw[VO];have b:(a=a)=True:=eq_true rfl;simp only[vvB,seval,Q5,aiG,JI,bU,bT,bW]
def aqS{a b:Int}(c:b<a)(h:Hp):pJ [iV a,iV b] h=D (iV 1) h:=by
 rw[agW];have d:(a<b)=False:=eq_false (by omega);have e:(a>b)=True:=eq_true c;simp only[vvB,seval,WW,awX,RX,RV,RU,RS,RQ,O8,O7,aDG,d,e,bU,bT,bW]
def av6{x y:Int×Ml}{e i f s2:V}(d:x.1<y.1):∃h',qZ [.agg (V.ofList (thC y f s2)),.agg (V.ofList (thC x e i))] g=D (iV 1) h'/\Nw g h':=by
 obtain⟨c,a,l,-⟩:=mkW g (O (N 250 true) (thC y f s2));obtain⟨k,b,j,-⟩:=mkW c (O (N 250 true) (thC x e i));have e1:=(show Kn c g.next (O (N 250 true) (thC y f s2)) by rw[a];exact Kn.new _ _).nw j|>.ld (q:=0) (x:=iV y.1) rfl;have e2:=(show Kn k c.next (O (N 250 true) (thC x e i)) by rw[b];exact Kn.new _ _).ld (q:=0) (x:=iV x.1) rfl;refine⟨k,?_,l.trans j⟩;rw[aoC];simp only[vvB,seval,agw,YI,YH,V.dB,<-a,<-b,e1,e2,aqS d];simp only[bU,bT,vvB,seval,bW]
def bTh(x:Int×Ml)(vk vs:V)(h:Hp):bK zTh [(0,1,iV x.1),(1,8,.agg (V.ofList (dL x.2 vk vs)))] h=D (.agg (V.ofList (thC x vk vs))) h:=(rfl)
def aQm(x:Int×Ml)(vk vs:V)(h:Hp):bP 250 zTh 1 [(0,9,.agg (V.ofList (thC x vk vs)))] h=D (.slice h.next 0 1 (.kn 1)) (h.new (O (N 250 true) (thC x vk vs))):=(rfl)
def apu(e:FuncId->Option Fun)(k:∀x y g,dn e (.func (.func 284) .nil .nil) [x,y] g=qZ [x,y] g){P:Pos->Prop}{l:List (Int×Ml)}(m:l.Pairwise λx y=>x.1<y.1)(h:Hp):jQ e P D5 h (.func (.func 284) .nil .nil) l:=by
 rintro g i j x y p q c a n o ⟨r,t,e1,-,-⟩ ⟨s,s2,e2,-,-⟩ _ _;obtain⟨hi,b⟩:=c!.1 n;obtain⟨hj,f⟩:=c!.1 o;have d:x.1<y.1:=by rw[<-b,<-f];exact List.pairwise_iff_getElem.1 m i j hi hj a
 subst e1 e2;rw[k];exact av6 d
def aik(a:dV h F ps A pl ib cb fb vm vl I)(hA:A.Small){box:Int}(hs:(Wn A.mails box).Pairwise λx y=>x.1<y.1)(af:(Wn A.mails box).length<50):
  ∃r h',zu [X ps 0,iV box] h=D r h'/\iU h.next.nat D5 250 9 h' r (Wn A.mails box)/\Nw h h':=by
 obtain⟨r,p,e1,o1,c1⟩:=amU a hA;have R:=(o1.rws dG).mono (P':=λj=>h.next.nat<=j.nat/\j.nat<p.next.nat) dG λj hj q=>⟨q,hj⟩
 have hn:=hA.mails;have n1:=c1.next;rw[aqz];show aX j! _ (λr h'=>iU h.next.nat D5 250 9 h' r (Wn A.mails box)/\Nw h h') _;simp only[vvB,seval,ajS,ab5,ab4,ab3,adT,e1,R.len];refine Oc.then (dO (σ:=V) (n:=A.mails.length) (pi:=13) (pn:=12) (pc:=14) [5,11,1] (λv=> [v,r,iV box]) (λk v g=>Nw p g/\dD p.next.nat (λj=>h.next.nat<=j.nat/\j.nat<p.next.nat) D5 250 9 g v (Wn (A.mails.take k) box))
  (A:=λfr g=>∃v,fr.get (g! 5)=some v/\Nw p g/\dD p.next.nat (λj=>h.next.nat<=j.nat/\j.nat<p.next.nat) D5 250 9 g v (Wn A.mails box)) (B:=λfr g=>False) (s:=.aQ)
  (λfr h _ k e1 e2=>by simp only[vvB,seval,afp,e1,e2]) (λfr h k _ e1=>by simp(disch:=omega)only[vvB,seval,afm,e1]) (by decide) (by rw[dP];omega) (qK0) (qK0) (by simp only[Fa,vvB,seval,and_self]) ⟨Nw.refl _,dD.nil _ _ _ _ _ _⟩ ?_ ?_) ?_ ?_
 ·intro k v fr g hk d t J W;obtain⟨z,b,f1,-⟩:=J;obtain⟨c,o⟩:=W;obtain⟨m,hm⟩:∃m,A.mails[k]?=some m:=⟨_,a! hk⟩
  obtain⟨i,q,cs,e1,⟨vk,vs,rfl,rk,rs⟩,-,-,-,-,e3⟩:=(R.nw dG c).elt hm;have E:=e3 g rfl;have ai:=hA.each m (b! hm);obtain⟨g2,ag,c2,k2⟩:=mkW g (O (N 40 true) (dL m vk vs));have S2:=mkT 8 zMl ag;have L5:=k2.ld (q:=5) (x:=vs) rfl;have ae:=rs.nw (aN _) c2;have ak:=rk.nw (aN _) c2;have ah:(Wn (A.mails.take k) box).length<=1000*1000:=by
   have:=aOn (l:=A.mails.take k) (box:=box) λm q=>(hA.each m (D! q)).2;rw[t!]at this;omega
  have ao:=c.next;have ap:=c2.next;simp only[vvB,seval,ab1,abZ,adS,z,b,d,e1,E,S2,L5,ae.len];refine Oc.out (Q:=λo=>Rd _ _ _ _ _ _ _ _ _ _ (yc 1 o)) (dO (σ:=V) (n:=m.mem.length) (pi:=20) (pn:=19) (pc:=21) [5,11,1,7,18,13,12] (λv=> [v,r,iV box,X g.next 0,vs,iV k,iV A.mails.length]) (λj v w=>Nw p w/\(Kn w g.next (O (N 40 true) (dL m vk vs))/\Rws (λj=>h.next.nat<=j.nat/\j.nat<p.next.nat) (flat jT) 1 w vk m.keys/\Rws (λj=>h.next.nat<=j.nat/\j.nat<p.next.nat) (flat dK) 2 w vs m.mem/\bV v≠some g.next)/\dD p.next.nat (λj=>h.next.nat<=j.nat/\j.nat<p.next.nat) D5 250 9 w v (Wn (A.mails.take k) box++((m.mem.take j).filter λx=>decide (x.1=box)).map λx=>(x.2,m)))
   (A:=λfr w=>∃v,Fa fr [5,11,1,13,12] [v,r,iV box,iV k,iV A.mails.length]/\Nw p w/\dD p.next.nat (λj=>h.next.nat<=j.nat/\j.nat<p.next.nat) D5 250 9 w v (Wn (A.mails.take (k+1)) box)) (B:=λfr g=>False) (s:=v)
   (λfr h _ k e1 e2=>by simp only[vvB,seval,abY,e1,e2]) (λfr h k _ e1=>by simp(disch:=omega)only[vvB,seval,YM,e1]) (by decide) (by rw[dP];omega) (qK0) (qK0) (by simp only[Fa,vvB,seval,f1,d,t,z,b,and_self]) ⟨c.trans c2,⟨k2,ak,ae,λe=>by have:=(o.fF e).2;omega⟩,by simpa using o.nw eF c2⟩ ?_ ?_) ?_ ?_
  ·intro j v fr w hj G ac J W;obtain⟨z,b,f1,f7,C,d,t,-⟩:=J;obtain⟨S,⟨kq,ab,L,ad⟩,o⟩:=W;obtain⟨x,hx⟩:∃x,m.mem[j]?=some x:=⟨_,a! hj⟩
   obtain⟨i,q,cs,e1,e2,-,-,-,-,e3⟩:=L.elt hx;obtain rfl:cs=dK x:=e2;have E:=e3 w rfl;obtain⟨M,aa⟩:∃M,M=w.new (O (N 106 true) (dK x)):=⟨_,rfl⟩
   have S3:=mkT 2 [Y U 0,Y U 0] aa;have u:Nw w M:=by rw[aa];exact Nw.new _ _
   have k3:Kn M w.next (O (N 106 true) (dK x)):=by rw[aa];exact Kn.new _ _
   have L0:=k3.ld (q:=0) (x:=iV x.1) rfl;have L1:=k3.ld (q:=1) (x:=iV x.2) rfl;have LM:=(kq.nw u).ldN (n:=8) rfl;have ht:(m.mem.take (j+1))=m.mem.take j++ [x]:=take_snoc hx;by_cases hb:x.1=box
   ·have Z:(x.1=box)=True:=eq_true hb;have am:=S.next;have an:=u.next;have aj:((Wn (A.mails.take k) box++((m.mem.take j).filter λx=>decide (x.1=box)).map λx=>(x.2,m)).length+1)*112<=140737488355328:=by
     have p:((m.mem.take j).filter λx=>decide (x.1=box)).length<=(m.mem.take j).length:=A! _ _;rw[t!]at p;rw[n!,e!];have:=ai.2;omega
    obtain⟨v',g4,e5,o5,P,n5,ev⟩:=(o.nw eF u).app1 (bt:=112) (x:=(x.2,m)) (cs:=thC (x.2,m) vk vs) (P':=λj=>h.next.nat<=j.nat/\j.nat<p.next.nat) eF (by omega) rfl (λ_ _ q=>q) ⟨vk,vs,rfl,ab.nw (aN _) u,L.nw (aN _) u⟩ (λj _ q e=>by have:=((o.nw eF u).fF e).1;omega) aj;have e6:bP 250 zTh 1 [(0,9,.agg (V.ofList (thC (x.2,m) vk vs)))] M=_:=aQm (x.2,m) vk vs M;have e7:bK zTh [(0,1,iV x.2),(1,8,.agg (V.ofList (dL m vk vs)))] M=_:=bTh (x.2,m) vk vs M;simp only[vvB,seval,P9,P8,abX,C,G,f1,z,f7,e1,E,S3,L0,L1,LM,Z,e7,e6,e5];refine⟨qK2 G,qK2 ac,v',by simp only[Fa,vvB,seval,b,f1,f7,C,d,t,and_self],?_,?_,?_⟩
    ·exact(S.trans u).own P λj e=>(o.fF e).1
    ·have hg:=kq.2;refine⟨(kq.nw u).ch P ad,(ab.nw (aN _) u).ch (aN _) P λj _ q=>⟨q,λe=>?_⟩,(L.nw (aN _) u).ch (aN _) P λj _ q=>⟨q,λe=>?_⟩,λe=>?_⟩
     ·have:=(o.fF e).1;omega
     ·have:=(o.fF e).1;omega
     ·rw[ev]at e;injection e with e;have:=congrArg Pos.nat e;rw[Pos.fA]at this;omega
    ·rw[ht,F!,h!,<-J!];simpa[hb]using o5
   ·have Z:(x.1=box)=False:=eq_false hb;simp only[vvB,seval,P9,P8,C,G,f1,z,f7,e1,E,S3,L0,Z];refine⟨qK2 G,qK2 ac,v,by simp only[Fa,vvB,seval,z,b,f1,f7,C,d,t,and_self],S.trans u,⟨kq.nw u,ab.nw (aN _) u,L.nw (aN _) u,ad⟩,?_⟩;rw[ht,F!,h!];simpa[hb]using o.nw eF u
  ·intro v fr w J W;obtain⟨z,b,f1,f7,C,d,t,-⟩:=J;obtain⟨S,al,o⟩:=W;refine⟨v,by simp only[Fa,vvB,seval,z,b,f1,d,t,and_self],S,?_⟩;rw[d!]at o;rw[take_snoc hm,aJZ];exact o
  ·rintro fr w ⟨v,J,S,o⟩;obtain⟨z,b,f1,d,t,-⟩:=J;exact⟨d,t,v,by simp only[Fa,vvB,seval,z,b,f1,and_self],S,o⟩
  ·intro fr g q;exact q.elim
 ·intro v fr g J W;obtain⟨z,b,-⟩:=J;obtain⟨c,o⟩:=W;rw[d!]at o;exact⟨v,z,c,o⟩
 ·rintro fr g ⟨v,z,c,o⟩;obtain⟨g5,e5,P⟩:=ak1 (f:=.func (.func 284) .nil .nil) (o.rows (P':=λj=>h.next.nat<=j.nat) eF (λ_ _ q=>q.1) λ_ q _=>by omega) eF af (apu _ (λ_ _ _=>rfl) hs _) (apu _ (λ_ _ _=>rfl) hs _) (apu _ (λ_ _ _=>rfl) hs _);simp only[vvB,seval,YK,KR,z,e5];exact aX.ret (r:=v) (qT0) ⟨(o.nw eF P).wide eF (by omega) λj hj q=>⟨q.1,λe=>by have:=(o.fF e).1;omega⟩,(c1.trans c).trans P⟩
 ·intro fr g q;exact q.elim
end
end Go.Proofs.Im
namespace Go.Im
structure Mg where
 uid:Int
 id:Int
 told:Int
 at_:Pos
def mgC(x:Mg):List V:= [iV x.uid,iV x.id,X x.at_ 0]
structure VwG (tV tM tA:TypeId) (b:Nat) (h:Hp) (pv:Pos) (box had:Int) (l:List Mg) (vv:V):Prop where
 vw:Kn h pv (O (N tV true) [iV box,vv,iV had])
 row:dD b (λ_=>False) (flat mgC) tM 3 h vv l
 told:∀x∈l,Kn h x.at_ (O (N tA true) [iV x.told])
 nd:(l.map (·.at_)).Nodup
 sep:∀x∈l,x.at_≠pv/\bV vv≠some x.at_
 nv:bV vv≠some pv
 lo:b<=pv.nat/\∀x∈l,b<=x.at_.nat
end Go.Im
namespace Go.Proofs.Im
section
variable{h h' g:Hp}{p pv:Pos}{vv:V}{b:Nat}{l:List Mg}{box had:Int}
abbrev aaH(b:Nat)(h:Hp)(pv:Pos)(box had:Int)(l:List Mg)(vv:V):Prop:=VwG 246 248 75 b h pv box had l vv
abbrev zVm:List V:= [Y U 0,Y U 0,.cZ]
def aQA(x:Mg):eH 248 zVm 1 [(0,3,.agg (V.ofList (mgC x)))]=some (O (N 248 true) (mgC x),λp=>.slice p 0 1 (.kn 1)):=(rfl)
def bAt(h:Hp):bK [Y U 0] [] h=D (.agg (V.ofList [Y U 0])) h:=(rfl)
def aaH.nw(a:aaH b h pv box had l vv)(c:Nw h g):aaH b g pv box had l vv where
 vw:=a.vw.nw c
 row:=a.row.nw (aN _) c
 told:=λx q=>(a.told x q).nw c
 nd:=a.nd
 sep:=a.sep
 nv:=a.nv
 lo:=a.lo
def aHr{P:Pos->Prop}(a:aaH b h pv box had l vv)(hb:b<=h.next.nat)(hl:l.length<=1000){x:Int×Ml}{vk vs:V}:
  ∃u h' Q q,abC [X pv 0,.agg (V.ofList (thC x vk vs))] h=D u h'/\aaH b h' pv box (max had x.1) (l++ [{uid:=x.1,id:=x.2.id,told:=x.2.mod,at_:=q}]) Q/\Ch (λj=>j=pv\/bV vv=some j) h h'/\(∀j,bV Q=some j->h.next.nat<=j.nat):=by
 obtain⟨d,I,c1,M⟩:=mkW h (O (N 250 true) (thC x vk vs));obtain⟨Z,J,E,k2⟩:=mkW d (O (N 75 true) [Y U 0]);obtain⟨y,hy⟩:∃y:Mg,y={uid:=x.1,id:=x.2.id,told:=x.2.mod,at_:=d.next}:=⟨_,rfl⟩
 obtain⟨h3,ad,B,k3⟩:=mkW Z (O (N 248 true) (mgC y));have S3:=mkT 3 zVm ad;obtain⟨o,t⟩:∃o,o=h3.put d.next (some (O (N 75 true) [iV x.2.mod])):=⟨_,rfl⟩
 have W:Ch (λj=>j=d.next) h3 o:=by rw[t];exact Ch.put _ _ rfl
 obtain⟨u,e4⟩:=aoP (n:=x.2.mod) ((k2.nw B)) (q:=0) (by decide);have e4:yK [X d.next 0,iV x.2.mod] h3=D u o:=by rw[t];exact e4
 have k4:Kn o d.next (O (N 75 true) [iV x.2.mod]):=by rw[t];exact(k2.nw B).put _
 have B3:bK zVm [(0,1,iV x.1),(1,1,iV x.2.id),(2,1,X d.next 0)] Z=D (.agg (V.ofList (mgC y))) Z:=by subst hy;rfl
 have ai:=c1.next;have aj:=E.next;have ak:=B.next;have al:=W.next;have b1:d.next.nat=h.next.nat+1:=by rw[I,bG]
 have b2:Z.next.nat=d.next.nat+1:=by rw[J,bG]
 have ac:Nw h h3:=(c1.trans E).trans B;have ae:=(M.nw (E.trans B)).ch W λe=>by have:=congrArg Pos.nat e;omega
 have ah:=k3.ch W λe=>by have:=congrArg Pos.nat e;omega
 have C:Nw h o:=ac.then W λj hj e=>by rw[e]at hj;omega
 have S:=a.nw C;have L0:=(M.nw E).ld (q:=0) (x:=iV x.1) rfl;have aa:=M.ld (q:=0) (x:=iV x.1) rfl;have ab:=M.ld (q:=1) (x:=iV x.2.id) rfl;have T3:=k3.ld (q:=2) (x:=X d.next 0) (by subst hy;rfl);have M3:=(M.nw (E.trans B)).ld (q:=7) (x:=iV x.2.mod) rfl;have L4:=(S.vw.bump 1).ld (q:=1) (x:=vv) rfl;have N4:=(ah.bump 1).ldN (n:=3) rfl;have am:=a.vw.2;obtain⟨w',h5,e5,o5,G,n5,f⟩:=S.row.apP (bt:=24) (x:=y) (by omega) rfl (by omega);have v5:=S.vw.ch G a.nv;have af:=ae.ch G λe=>by have:=(a.row.fF e).2;omega
 obtain⟨k,v⟩:∃k,k=h5.put pv (some (O (N 246 true) [iV box,w',iV had])):=⟨_,rfl⟩
 have S6:aV 1 (X pv 1) w' h5=D V.undef k:=by rw[v];exact v5.st (q:=1) o5.cell (show 1<3 by omega)
 have v6:Kn k pv (O (N 246 true) [iV box,w',iV had]):=by rw[v];exact v5.put _
 have c6:Ch (λj=>j=pv) h5 k:=by rw[v];exact Ch.put _ _ rfl
 have ag:=af.ch c6 λe=>by have:=congrArg Pos.nat e;omega
 obtain⟨r,w⟩:∃r,r=k.put pv (some (O (N 246 true) [iV box,w',iV (max had x.1)])):=⟨_,rfl⟩
 have S7:aV 1 (X pv 2) (iV (max had x.1)) k=D V.undef r:=by rw[w];exact v6.st (q:=2) ⟨rfl,rfl⟩ (show 2<3 by omega)
 have v7:Kn r pv (O (N 246 true) [iV box,w',iV (max had x.1)]):=by rw[w];exact v6.put _
 have c7:Ch (λj=>j=pv) k r:=by rw[w];exact Ch.put _ _ rfl
 have L6:=v6.ld (q:=2) (x:=iV had) rfl;have M6:=ag.ld (q:=0) (x:=iV x.1) rfl;have i:Ch (λj=>j=pv) h5 r:=c6.trans c7 λ_ _ q=>q;rw[ayR];simp only[vvB,seval,aw0,anr,anq,anp,V.dB,<-I,aa,ab,bAt,o8,<-J,B3,S3,T3,M3,e4];simp only[vvB,seval,ano,L4,N4,aQA,e5,S6];simp only[vvB,seval,ann,L6,M6,S7];refine⟨_,r,w',d.next,by simp only[bU,bT,vvB,seval,bW]<;>rfl,⟨v7,?_,?_,?_,?_,?_,?_⟩,?_,λj e=>by have:=f j e;omega⟩
 ·rw[<-hy];exact o5.ch (aN _) i (λj hj e=>by have:=f j hj;rw[e]at this;omega) λ_ _ q=>q.elim
 ·intro z c;rw[l!,p!]at c;rcases c with c|rfl
  ·have s:=a.sep z c;exact((S.told z c).ch G s.2).ch i s.1
  ·exact((show Kn o d.next (O (N 75 true) [iV x.2.mod]) from k4).ch G λe=>by have:=(a.row.fF e).2;omega).ch i λe=>by have:=congrArg Pos.nat e;omega
 ·rw[h!,List.nodup_append];refine⟨a.nd,by simp,?_⟩;intro z c z' L e;obtain⟨m,hm,rfl⟩:=q!.1 c;simp at L;subst L;have:=(a.told m hm).2
  rw[e]at this;omega
 ·intro z c;rw[l!,p!]at c;rcases c with c|rfl
  ·have s:=a.sep z c;have:=(a.told z c).2;exact⟨s.1,λe=>by have:=f _ e;omega⟩
  ·exact⟨λe=>by have:=congrArg Pos.nat e;simp only at this;omega,λe=>by have:=f _ e;simp only at this;omega⟩
 ·intro e;have:=f _ e;omega
 ·refine⟨a.lo.1,λz c=>?_⟩;rw[l!,p!]at c;rcases c with c|rfl
  ·exact a.lo.2 z c
  ·show b<=d.next.nat;omega
 ·exact(((Ch.refl _ h).trans C λ_ _ q=>q.elim).trans G λj _ e=>.inr e).trans i λj _ e=>.inl e
end
end Go.Proofs.Im
namespace Go.Im
def mgK(y:Mg):Int×Int×Int:=(y.uid,y.id,y.told)
def thK(x:Int×Ml):Int×Int×Int:=(x.1,x.2.id,x.2.mod)
def ae0(l:List (Int×Ml)):Int:=l.foldl (λa x=>max a x.1) 0
end Go.Im
namespace Go.Proofs.Im
section
variable{h h' g:Hp}{F I:Pos->Prop}{ps pl ib p pv:Pos}{A:Acc}{cb:Cap}{fb:Bool}{vm vl vv:V}{b:Nat}{l:List Mg}{box:Int}
def aED{b:Bx}{p:Pos}{n:Int}{w:Wr}(k:Kn g p (O w [iV n])):Pq [.agg (V.ofList (gI b)),X p 0] g=D (K (decide (b.id=n))) (g.new (O (N 55 true) (gI b))):=by
 have e1:=(Kn.new g (O (N 55 true) (gI b))).ld (q:=0) (x:=iV b.id) rfl;have e2:=(k.add (O (N 55 true) (gI b))).ld (q:=0) (x:=iV n) rfl;rw[axs];simp only[vvB,seval,ase,ai4,ai3,V.dB,e1,e2];simp only[bU,bT,vvB,seval,bW]
def aCV(p:Pos)(x:V)(g:Hp):dn kC (.func (.func 290) .nil (.cons (X p 0) .nil)) [x] g=Pq [x,X p 0] g:=(rfl)
def aHo(a:dV h F ps A pl ib cb fb vm vl I)(hA:A.Small){box:Int}(hs:(Wn A.mails box).Pairwise λx y=>x.1<y.1)(aa:(Wn A.mails box).length<50)(ab:(A.boxes.any λb=>decide (b.id=box))=true):
  ∃pv h' vv l,abA [X ps 0,iV box] h=D (.tuple (.cons (X pv 0) (.cons (iV 0) .nil))) h'/\aaH h.next.nat h' pv box (ae0 (Wn A.mails box)) l vv/\Nw h h'/\l.map mgK=(Wn A.mails box).map thK:=by
 obtain⟨h1,ac,L,k1⟩:=mkW h (O (N 3 true) [iV box]);obtain⟨r,h2,e2,r2,J,-⟩:=aaI (a.nw L) hA;obtain⟨d,W,M⟩:=agY (f:=.func (.func 290) .nil (.cons (X h.next 0) .nil)) r2 (aN _) (λb:Bx=>decide (b.id=box)) (by have:=hA.boxes;omega) (λa cs g _ c e _=>by
  obtain rfl:cs=gI a:=e;exact⟨_,by rw[aCV];exact aED (k1.nw (J.trans c)),Nw.new _ _⟩)
 have o:mD [r,.func (.func 290) .nil (.cons (X h.next 0) .nil)] h2=D (K true) d:=by rw[<-ab];exact W
 have F2:∀g,dZ (.func 290) [] [X h.next 0] g=D (.func (.func 290) .nil (.cons (X h.next 0) .nil)) g:=λg=>rfl;have k3:=k1.nw (J.trans M);have L3:=k3.ld (q:=0) (x:=iV box) rfl;obtain⟨h4,ad,Q,k4⟩:=mkW d (O (N 246 true) [iV box,.aQ,iV 0]);have B4:bK [Y U 0,.aQ,Y U 0] [(0,1,iV box)] d=D (.agg (V.ofList [iV box,.aQ,iV 0])) d:=(rfl)
 have L4:=(k3.nw Q).ld (q:=0) (x:=iV box) rfl;have C:Nw h h4:=((L.trans J).trans M).trans Q;obtain⟨af,z,e5,o5,S⟩:=aik (a.nw C) hA hs aa;have R5:=(o5.rws eF).mono (P':=λj=>h4.next.nat<=j.nat/\j.nat<z.next.nat) eF λj hj q=>⟨q,hj⟩
 have ak:=a.st.2;have n1:=L.next;have n2:=J.next;have n3:=M.next;have n4:=Q.next;have n5:=S.next;have al:=k4.2;have nn:∀g,aJ .eql (.ptr 16) (X ps 0) .cZ g=D (K false) g:=λg=>rfl;rw[ayO]
 suffices T:aX j! _ (λr h'=>∃vv l,r=.tuple (.cons (X d.next 0) (.cons (iV 0) .nil))/\aaH h.next.nat h' d.next box (ae0 (Wn A.mails box)) l vv/\Nw h h'/\l.map mgK=(Wn A.mails box).map thK)
   (alq (T.set (some (iV box)) (g! 1) (T.set (some (X ps 0)) (g! 0) T.nil)) h) by
  obtain⟨r,h',e,vv,l,rfl,q⟩:=T;exact⟨_,h',vv,l,e,q⟩
 simp only[vvB,seval,alq,am9,am8,am7,am6,am5,aoy,akw,<-ac,nn,e2,F2,o,L3,B4,o8,V.dB,<-ad,L4,e5,R5.len];refine Oc.then (dO (σ:=V×List Mg) (n:=(Wn A.mails box).length) (pi:=25) (pn:=24) (pc:=26) [6,23] (λ_=> [X d.next 0,af]) (λk s g=>aaH h.next.nat g d.next box (ae0 ((Wn A.mails box).take k)) s.2 s.1/\Ch (λj=>j=d.next\/z.next.nat<=j.nat) z g/\s.2.map mgK=((Wn A.mails box).take k).map thK/\∀j,bV s.1=some j->z.next.nat<=j.nat)
  (A:=λfr g=>fr.get (g! 6)=some (X d.next 0)/\∃vv l,aaH h.next.nat g d.next box (ae0 (Wn A.mails box)) l vv/\Ch (λj=>j=d.next\/z.next.nat<=j.nat) z g/\l.map mgK=(Wn A.mails box).map thK) (B:=λfr g=>False) (s:=(.aQ,[]))
  (λfr h _ k e1 e2=>by simp only[vvB,seval,am4,e1,e2]) (λfr h k _ e1=>by simp(disch:=omega)only[vvB,seval,aiB,e1]) (by decide) (by rw[dP];omega) (qK0) (qK0) (by simp only[Fa,vvB,seval,and_self])
  ⟨⟨k4.nw S,dD.nil _ _ _ _ _ _,λ_ q=>(by cases q),.nil,λ_ q=>(by cases q),λq=>(by cases q),⟨by omega,λ_ q=>(by cases q)⟩⟩,Ch.refl _ _,rfl,λ_ q=>(by cases q)⟩ ?_ ?_) ?_ ?_
 ·rintro k ⟨vv,l⟩ fr g hk E Z fa hI;obtain⟨w,t,-⟩:=fa;obtain⟨v,c,hl,hv⟩:=hI;obtain⟨x,hx⟩:∃x,(Wn A.mails box)[k]?=some x:=⟨_,a! hk⟩
  obtain⟨i,q,cs,e1,⟨vk,vs,rfl,rk,rs⟩,-,-,-,-,W⟩:=(R5.ch (P':=λ_=>True) eF c λj hj q=>⟨trivial,λe=>by rcases e with rfl|e<;>omega⟩).elt hx;have o:=W g rfl;obtain⟨g2,G,-,k2⟩:=mkW g (O (N 250 true) (thC x vk vs));have S2:=mkT 9 zTh G;have m:Nw g g2:=by rw[G];exact Nw.new _ _
  have aj:=c.next;have ai:=m.next;have ah:l.length=k:=by have:=congrArg List.length hl;simp at this;omega
  obtain⟨u,g3,ag,q',e6,v6,c6,ae⟩:=aHr (P:=λ_=>True) (v.nw m) (by omega) (by show l.length<=1000;omega) (x:=x) (vk:=vk) (vs:=vs);simp only[vvB,seval,am3,am2,E,t,w,e1,o,S2,k2.ldN (n:=9) rfl,e6];refine⟨qK2 E,qK2 Z,(ag,l++ [{uid:=x.1,id:=x.2.id,told:=x.2.mod,at_:=q'}]),by simp only[Fa,vvB,seval,w,t,and_self],?_,?_,?_,?_⟩
  ·rw[take_snoc hx];have:ae0 ((Wn A.mails box).take k++ [x])=max (ae0 ((Wn A.mails box).take k)) x.1:=by simp[ae0,List.foldl_append]
   rw[this];exact v6
  ·exact(c.trans m λ_ _ q=>q.elim).trans c6 λj hj q=>q.imp id λe=>by have:=hv j e;omega
  ·simp only[h!];rw[hl,take_snoc hx,h!];rfl
  ·intro j e;have:=ae j e;omega
 ·rintro⟨vv,l⟩ fr g fa hI;obtain⟨w,t,-⟩:=fa;obtain⟨v,c,hl,hv⟩:=hI;rw[d!]at v hl;exact⟨w,vv,l,v,c,hl⟩
 ·rintro fr g ⟨w,vv,l,v,c,hl⟩;simp only[vvB,seval,aiA,w];exact aX.ret (qT0) ⟨vv,l,rfl,v,((C.trans S).then c λj hj e=>by rcases e with rfl|e<;>omega),hl⟩
 ·intro fr g q;exact q.elim
end
end Go.Proofs.Im
