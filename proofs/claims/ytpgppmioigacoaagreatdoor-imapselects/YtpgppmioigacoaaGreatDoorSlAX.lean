/- Part of the value machine, or of a walk by it: lemmas that the claim's last text uses. No conditions. -/
import Derived.Test.YtpgppmioigacoaaGreatDoorSlAW
import Derived.Test.YtpgppmioigacoaaGreatDoorSlAJ
set_option linter.unusedVariables false
set_option linter.unusedSimpArgs false
set_option linter.unnecessarySimpa false
noncomputable section
namespace Go.Im
open Go Go.Vm Go.Ln
def bxF(k:Nat):Bx:={id:=1,name:=jS,par:=0,valid:=1,next:=(k:Int)+1,mod:=(k:Int)+1}
structure FilA (ts:List (List Nat)) (A:Acc):Prop where
 clock:A.clock=(ts.length:Int)+1
 boxes:A.boxes= [bxF ts.length]
 len:A.mails.length=ts.length
 ml:∀(k:Nat) (m:Ml),A.mails[k]?=some m→∃t,ts[k]?=some t∧m.id=(k:Int)+1∧m.text=t∧m.at_=(k:Int)∧m.keys= []∧m.mem= [(1,(k:Int)+1)]∧m.mod=(k:Int)+2
 ents:A.ents.length=3*ts.length
 logged:A.Logged
 lastId:A.lastId=(ts.length:Int)
 oct:0≤A.octets∧A.octets≤1000*(ts.length:Int)
theorem FilA.nil:FilA [] ae3:=⟨rfl,rfl,rfl,fun k m h=>by simp [ae3] at h,rfl,⟨fun _ h=>by simp [ae3] at h⟩,rfl,by decide,by decide⟩
theorem FilA.snoc{ts:List (List Nat)}{A:Acc}(f:FilA ts A){t:List Nat}(ht:t.length≤1000)(i:Int):FilA (ts++ [t]) (Zo A (bxF ts.length) (ts.length:Int) t [] i):=by
 have hl:((ts++ [t]).length:Int)=(ts.length:Int)+1:=by rw [List.length_append,List.length_singleton];rfl
 have hc:=f.clock
 have ho:=f.oct
 refine⟨?_,?_,?_,?_,?_,⟨?_⟩,?_,?_⟩
 ·rw [hl];show A.clock+1=_;rw [hc]
 ·rw [List.length_append,List.length_singleton]
  show ny (A.clock+1) [(bxF ts.length).id] (updB (bxF ts.length).id (fun b=>{b with next:=b.next+1}) A.boxes)= [bxF (ts.length+1)]
  rw [f.boxes,hc]
  simp only [ny,updB,bxF,if_true,↓reduceIte]
  congr 1
 ·show(A.mails++ [_]).length=_
  rw [List.length_append,List.length_append,f.len];rfl
 ·intro k m hm
  have hm':(A.mails++ [avh A (bxF ts.length) (ts.length:Int) t [] i])[k]?=some m:=hm
  by_cases hk:k<ts.length
  ·rw [List.getElem?_append_left (by rw [f.len];exact hk)] at hm'
   obtain⟨u,hu,q⟩:=f.ml k m hm'
   exact⟨u,by rw [List.getElem?_append_left hk];exact hu,q⟩
  ·rw [List.getElem?_append_right (by rw [f.len];omega),f.len] at hm'
   have h0:k - ts.length=0:=by
    have:=(List.getElem?_eq_some_iff.1 hm').1
    simp at this;omega
   rw [h0] at hm'
   simp at hm'
   subst hm'
   have hke:k=ts.length:=by omega
   subst hke
   refine⟨t,by rw [List.getElem?_append_right (Nat.le_refl _),Nat.sub_self];rfl,?_,rfl,rfl,rfl,?_,?_⟩
   ·show A.lastId+1=_;rw [f.lastId]
   ·rfl
   ·show A.clock+1=_;rw [hc];omega
 ·show(A.ents++_).length=_
  rw [List.length_append,f.ents,List.length_append]
  simp;omega
 ·intro e he
  have he':e∈A.ents++([ql (A.clock+1) (bxF ts.length).id]++ [({mod:=A.clock+1,kind:=2,id:=A.lastId+1,how:=1}:En),{mod:=A.clock+1,kind:=3,id:=Dh A i,how:=ae9 i}]):=he
  show e.mod≤A.clock+1
  rcases List.mem_append.1 he' with q|q
  ·have:=f.logged.mods e q;omega
  ·simp at q
   rcases q with rfl|rfl|rfl<;>exact Int.le_refl _
 ·show A.lastId+1=_;rw [f.lastId,hl]
 ·show 0≤A.octets+(t.length:Int)∧A.octets+(t.length:Int)≤1000*((ts++ [t]).length:Int)
  rw [hl];omega
theorem FilA.small{ts:List (List Nat)}{A:Acc}(f:FilA ts A)(hn:ts.length≤100):A.Small where
 clock:=by rw [f.clock];omega
 boxes:=by rw [f.boxes];simp
 mails:=by rw [f.len];omega
 ents:=by rw [f.ents];omega
 each:=fun m hm=>by
  obtain⟨k,hk,rfl⟩:=List.getElem_of_mem hm
  obtain⟨t,-,-,-,-,h1,h2,-⟩:=f.ml k _ (List.getElem?_eq_getElem hk)
  rw [h1,h2];simp
theorem FilA.app{ts:List (List Nat)}{A:Acc}(f:FilA ts A)(hn:ts.length≤100)(hs:∀t∈ts,Sm 1000 t):CanApp A 0 (bxF ts.length) where
 small:=f.small hn
 logged:=f.logged
 at_:=by rw [f.boxes];rfl
 find:=by rw [f.boxes];simp [bxF]
 next:=by show 0≤(ts.length:Int)+1∧(ts.length:Int)+1≤900000;omega
 clock:=by rw [f.clock];omega
 lastId:=by rw [f.lastId];omega
 ents:=by rw [f.ents];omega
 mails:=by rw [f.len];omega
 oct:=by have:=f.oct;omega
 texts:=fun m hm=>by
  obtain⟨k,hk,rfl⟩:=List.getElem_of_mem hm
  obtain⟨t,ht,-,h1,-⟩:=f.ml k _ (List.getElem?_eq_getElem hk)
  rw [h1];exact(hs t (List.mem_of_getElem? ht)).mono (by omega)
theorem azX:∀(l:List Ml) (b:Nat),(∀(k:Nat) (m:Ml),l[k]?=some m→m.mem= [(1,((b+k:Nat):Int)+1)])→(Wn l 1).length=l.length∧(Wn l 1).Pairwise (fun x y=>x.1<y.1)∧∀x∈Wn l 1,(b:Int)+1≤x.1
 | [],b,_=>⟨rfl,.nil,fun _ h=>by cases h⟩
 |m::l,b,h=>by
  have h0:=h 0 m rfl
  have ih:=azX l (b+1) fun k m hk=>by have:=h (k+1) m (by simpa using hk);rw [this,show b+(k+1)=b+1+k by omega]
  have e:Wn (m::l) 1=((b:Int)+1,m)::Wn l 1:=by
   unfold Wn
   rw [List.flatMap_cons,h0]
   simp
  rw [e]
  refine⟨by simp [ih.1],List.pairwise_cons.2 ⟨fun y hy=>?_,ih.2.1⟩,fun x hx=>?_⟩
  ·have:=ih.2.2 y hy;show(b:Int)+1<y.1;omega
  ·rcases List.mem_cons.1 hx with rfl|hx
   ·exact Int.le_refl _
   ·have:=ih.2.2 x hx;omega
theorem FilA.wn{ts:List (List Nat)}{A:Acc}(f:FilA ts A):(Wn A.mails 1).length=ts.length∧(Wn A.mails 1).Pairwise (fun x y=>x.1<y.1):=by
 have:=azX A.mails 0 fun k m hk=>by obtain⟨_,-,-,-,-,-,h,-⟩:=f.ml k m hk;rw [h,Nat.zero_add]
 exact⟨by rw [this.1,f.len],this.2.1⟩
theorem FilA.aNQ{ts:List (List Nat)}{A:Acc}(f:FilA ts A)(hn:ts.length≤40):CanBox A 0 (bxF ts.length) where
 small:=f.small (by omega)
 top:=by
  rw [f.boxes]
  refine⟨by simp,fun b hb=>by simp at hb;rw [hb];rfl,fun b hb=>by simp at hb;rw [hb];exact⟨by show jS.length≤_;decide,by show ∀c∈jS,c<256;decide⟩,fun k b hk=>?_⟩
  cases k with
  |zero=>simp at hk;subst hk;simp
  |succ k=>simp at hk
 at_:=by rw [f.boxes];rfl
 named:=by
  rw [f.boxes]
  unfold iM
  have:Ny jS=jS:=by unfold Ny;rw [if_pos rfl]
  rw [this]
  simp [bxF]
 sorted:=f.wn.2
 few:=by show(Wn A.mails 1).length<50;rw [f.wn.1];omega
 valid:=by show(0:Int)≤1∧(1:Int)<100;omega
 next:=by show 0≤(ts.length:Int)+1∧(ts.length:Int)+1<100;omega
 clock:=by rw [f.clock];omega
end Go.Im
namespace Go.Proofs.Im
open Go Go.Proofs Go.Vm Go.Ln Go.Im
set_option maxRecDepth 100000
variable{h h' g:Hp}{P F I:Pos→Prop}{ps pl ib:Pos}{A:Acc}{cb:Cap}{fb:Bool}{v vm vl:V}{ts:List (List Nat)}
theorem aIL(x:V)(h:Hp):acM [x] h=.ok x h:=by
 rw [azO]
 simp only [vvB,Nat.reduceEqDiff,reduceCtorEq,↓reduceIte,al1,aoJ,aoI]
 simp only [aT,bD,vvB,Nat.reduceEqDiff,reduceCtorEq,↓reduceIte,bF]
theorem amo{k:Nat}{t:List Nat}(hk:ts[k]?=some t):ts.take (k+1)=ts.take k++ [t]:=take_snoc hk
theorem aEo(r:Rws P (flat jH) 1 h v ts)(hn:ts.length≤40)(hs:∀t∈ts,Sm 1000 t):
  ∃ps h' A F pl ib cb fb vm vl I,NY [v] h=.ok (.ptr ps 0) h'∧FilA ts A∧dL h' F ps A pl ib cb fb vm vl I∧Nw h h'∧∀j,F j→h.next.nat≤j.nat:=by
 obtain⟨h1,e1,c1⟩:=aGy h
 obtain⟨ps,h2,F,pl,ib,cb,fb,e2,a2,c2,f2⟩:=aII h1
 have c12:=c1.trans c2
 have n1:=c1.next
 have n2:=c2.next
 have rl:=r.len
 have e3:=aIL (iV 0) h2
 rw [aq7]
 suffices T:aU Tryz.prog [.tmp 2] (fun rr h'=>rr=.ptr ps 0∧∃A F pl ib cb fb vm vl I,FilA ts A∧dL h' F ps A pl ib cb fb vm vl I∧Nw h h'∧∀j,F j→h.next.nat≤j.nat) (NQ (T.set (some v) (Pos.of 0) T.nil) h) by
  obtain⟨rr,h',e,rfl,A,F,pl,ib,cb,fb,vm,vl,I,q⟩:=T
  exact⟨ps,h',A,F,pl,ib,cb,fb,vm,vl,I,e,q⟩
 simp (disch:=omega) only [vvB,Nat.reduceEqDiff,reduceCtorEq,↓reduceIte,NQ,adN,adM,adL,adK,e1,e2,e3,fF]
 refine Oc.then (dR (n:=ts.length) (fun μ fr g=>∃(k:Nat) (A:Acc) (F:Pos→Prop) (pl ib:Pos) (cb:Cap) (fb:Bool) (vm vl:V) (I:Pos→Prop),fr.get (Pos.of 0)=some v∧fr.get (Pos.of 3)=some (.ptr ps 0)∧fr.get (Pos.of 5)=some (.int .i64 (k:Int))∧k+μ=ts.length∧FilA (ts.take k) A∧dL g F ps A pl ib cb fb vm vl I∧dA 0 I kG tMl 8 g vm A.mails∧Nw h g∧∀j,F j→h.next.nat≤j.nat)
  (A:=fun fr g=>fr.get (Pos.of 3)=some (.ptr ps 0)∧∃(A:Acc) (F:Pos→Prop) (pl ib:Pos) (cb:Cap) (fb:Bool) (vm vl:V) (I:Pos→Prop),FilA ts A∧dL g F ps A pl ib cb fb vm vl I∧Nw h g∧∀j,F j→h.next.nat≤j.nat) (B:=fun _ _=>False) (by rw [dS];omega) ?_ ?_) ?_ ?_
 ·exact⟨0,ae3,F,pl,ib,cb,fb,.aG,.aG,_,qK0,qK0,qK1,by omega,FilA.nil,a2,dA.nil _ _ _ _ _ _,c12,fun j q=>by have:=f2 j q;omega⟩
 ·rintro μ fr g ⟨k,A,F,pl,ib,cb,fb,vm,vl,I,f0,f3,f5,hk,fa,a,o,c,hF⟩
  by_cases hz:μ=0
  ·have hkn:k=ts.length:=by omega
   subst hkn
   rw [List.take_length] at fa
   simp (disch:=omega) only [vvB,Nat.reduceEqDiff,reduceCtorEq,↓reduceIte,Rh,QW,f0,f5,rl]
   exact⟨rfl,qK2 f3,A,F,pl,ib,cb,fb,vm,vl,I,fa,a,c,hF⟩
  ·have hkn:k<ts.length:=by omega
   obtain⟨t,ht⟩:∃t,ts[k]?=some t:=⟨_,List.getElem?_eq_getElem hkn⟩
   have hst:=hs t (List.mem_of_getElem? ht)
   have hkl:(ts.take k).length=k:=by rw [List.length_take];omega
   obtain⟨g2,hg2⟩:∃g2,g2=g.new (.cells (.rw fB true) [iV 1]):=⟨_,rfl⟩
   have c2':Nw g g2:=by rw [hg2];exact Nw.new _ _
   have k2:Kn g2 g.next (.cells (.rw fB true) ([(1:Int)].map iD).flatten):=by rw [hg2];exact Kn.new _ _
   have r2:Rws (fun j=>j=g.next) (flat iD) 1 g2 (.slice g.next 0 1 (.kn 1)) [(bxF (ts.take k).length).id]:=Kn.rws (c:=iD) (l:= [(1:Int)]) (cp:=.kn 1) (sz:=1) k2 (fun _=>rfl) (fun _ _ _ _ e=>by cases e;exact Nat.le_refl _)
   have B2:bI fB [(.int .i64 0)] 1 [(0,1,.int .i64 1)] g=.ok (.slice g.next 0 1 (.kn 1)) g2:=by rw [hg2];rfl
   obtain⟨i,q,cs,ix,ex,-,-,-,ld,-⟩:=(r.nw (aQ _) (c.trans c2')).elt ht
   obtain rfl:cs=jH t:=ex
   have ld':=ld g2 rfl 0 (.str t) rfl
   rw [Nat.add_zero] at ld'
   obtain⟨th,rr,g3,F3,vm3,vl3,I3,e4,a3,o3,c3,f3'⟩:=axy (a.nw c2') (o.nw dw c2') (fa.app (by omega) fun t ht=>hs t (List.mem_of_mem_take ht)) r2 (at_:=(k:Int)) (by omega) (Rws.aG (fun _=>False) (flat jH) 1 g2) (fun _ q=>(by cases q)) (by simp) (hst.mono (by omega):Sm 100000 t)
   have fa':=fa.snoc hst.1 th
   rw [hkl] at a3 o3 fa'
   rw [←amo ht] at fa'
   have n3:=(c.trans c2').next
   simp (disch:=omega) only [vvB,Nat.reduceEqDiff,reduceCtorEq,↓reduceIte,Rh,QW,adJ,adI,f0,f3,f5,rl,B2,ix,ld',e4]
   exact⟨μ - 1,by omega,k+1,_,F3,pl,ib,cb,fb,vm3,vl3,I3,qK2 f0,qK2 f3,qK1,by omega,fa',a3,o3,(c.trans c2').then c3 fun j hj q=>by have:=hF j q;omega,fun j q=>(f3' j q).elim (hF j) fun l=>by omega⟩
 ·rintro fr g ⟨f3,A,F,pl,ib,cb,fb,vm,vl,I,fa,a,c,hF⟩
  simp only [vvB,Nat.reduceEqDiff,reduceCtorEq,↓reduceIte,adH,f3]
  exact aU.ret (qT0) ⟨rfl,A,F,pl,ib,cb,fb,vm,vl,I,fa,a,c,hF⟩
 ·intro fr g q;exact q.elim
end Go.Proofs.Im

noncomputable section
namespace Go.Im
open Go Go.Vm Go.Ln
theorem iZ{h:Hp}{p:Pos}{s:List Nat}{v:V}{es es':List (V×V)}(hp:p=h.next)(he:akq (.str s) v es=some es'):gI .string (.map p) (.str s) v (h.new (.map es))=.ok V.undef (h.new (.map es')):=by
 subst hp
 show xG (.map h.next) (.str s) v (h.new (.map es))=_
 simp only [xG,dD,he,apW]
theorem aNC(n:Nat)(x:V)(h:Hp):fK (.func n) [x] [] h=.ok (.func (.func n) (.cons x .nil) .nil) h:=(rfl)
theorem aPK(g:Nat)(x:V)(n:Int)(u:Bool)(h:Hp):bK [.gG,(.int .i64 0),(.bool false)] [(0,1,.func (.func g) (.cons x .nil) .nil),(1,1,(.int .i64 n)),(2,1,(.bool u))] h=.ok (.agg (.cons (.func (.func g) (.cons x .nil) .nil) (.cons (.int .i64 n) (.cons (.bool u) .nil)))) h:=(rfl)
end Go.Im
namespace Go.Proofs.Im
open Go Go.Proofs Go.Vm Go.Ln Go.Im
set_option maxRecDepth 100000
variable{h h':Hp}{F I:Pos→Prop}{ps pl ib p pc im:Pos}{A:Acc}{cb:Cap}{fb only:Bool}{vm vl vw:V}{f:Nat}{st:Sn}
theorem aI3(h:Hp):∃pc im h',aEk [] h=.ok (.ptr pc 0) h'∧Kn h' pc (.cells (.rw tCn true) [.bool false,.bY,.bool false,iV 0,.map im])∧Kn h' im (.map (gQ pc))∧pc≠im∧Nw h h'∧h.next.nat≤pc.nat∧h.next.nat≤im.nat:=by
 obtain⟨pc,hpc⟩:∃pc,pc=h.next:=⟨_,rfl⟩
 obtain⟨h1,hh1,c1,-⟩:=mkW h (.cells (.rw tCn true) [.bool false,.bY,.bool false,iV 0,.jQ])
 have k1:Kn h1 pc (.cells (.rw tCn true) [.bool false,.bY,.bool false,iV 0,.jQ]):=by rw [hh1,hpc];exact Kn.new _ _
 have n1:h1.next.nat=h.next.nat+1:=by rw [hh1,aZ]
 have B1:bK [(.bool false),.bY,(.bool false),(.int .i64 0),.jQ] [] h=.ok (.agg (V.ofList [.bool false,.bY,.bool false,iV 0,.jQ])) h:=rfl
 have X1:fV tCn (.agg (V.ofList [.bool false,.bY,.bool false,iV 0,.jQ])) h=.ok (.ptr pc 0) h1:=by rw [hh1,hpc];rfl
 obtain⟨p,hp⟩:∃p,p=h1.next:=⟨_,rfl⟩
 have M0:aaO h1=.ok (.map p) (h1.new (.map [])):=by rw [hp];rfl
 have m0:gI .string (.map p) (.str [99,97,112,97,98,105,108,105,116,121]) (.agg (.cons (.func (.func aNj) (.cons (.ptr pc 0) .nil) .nil) (.cons (.int .i64 0) (.cons (.bool false) .nil)))) (h1.new (.map []))=.ok V.undef (h1.new (.map (List.take 1 (gQ pc)))):=iZ hp rfl
 have m1:gI .string (.map p) (.str [110,111,111,112]) (.agg (.cons (.func (.func auh) (.cons (.ptr pc 0) .nil) .nil) (.cons (.int .i64 0) (.cons (.bool false) .nil)))) (h1.new (.map (List.take 1 (gQ pc))))=.ok V.undef (h1.new (.map (List.take 2 (gQ pc)))):=iZ hp rfl
 have m2:gI .string (.map p) (.str [108,111,103,111,117,116]) (.agg (.cons (.func (.func aNi) (.cons (.ptr pc 0) .nil) .nil) (.cons (.int .i64 0) (.cons (.bool false) .nil)))) (h1.new (.map (List.take 2 (gQ pc))))=.ok V.undef (h1.new (.map (List.take 3 (gQ pc)))):=iZ hp rfl
 have m3:gI .string (.map p) (.str [108,111,103,105,110]) (.agg (.cons (.func (.func aHj) (.cons (.ptr pc 0) .nil) .nil) (.cons (.int .i64 1) (.cons (.bool false) .nil)))) (h1.new (.map (List.take 3 (gQ pc))))=.ok V.undef (h1.new (.map (List.take 4 (gQ pc)))):=iZ hp rfl
 have m4:gI .string (.map p) (.str [115,101,108,101,99,116]) (.agg (.cons (.func (.func Uo) (.cons (.ptr pc 0) .nil) .nil) (.cons (.int .i64 2) (.cons (.bool false) .nil)))) (h1.new (.map (List.take 4 (gQ pc))))=.ok V.undef (h1.new (.map (List.take 5 (gQ pc)))):=iZ hp rfl
 have m5:gI .string (.map p) (.str [101,120,97,109,105,110,101]) (.agg (.cons (.func (.func Nr) (.cons (.ptr pc 0) .nil) .nil) (.cons (.int .i64 2) (.cons (.bool false) .nil)))) (h1.new (.map (List.take 5 (gQ pc))))=.ok V.undef (h1.new (.map (List.take 6 (gQ pc)))):=iZ hp rfl
 have m6:gI .string (.map p) (.str [99,114,101,97,116,101]) (.agg (.cons (.func (.func amu) (.cons (.ptr pc 0) .nil) .nil) (.cons (.int .i64 2) (.cons (.bool false) .nil)))) (h1.new (.map (List.take 6 (gQ pc))))=.ok V.undef (h1.new (.map (List.take 7 (gQ pc)))):=iZ hp rfl
 have m7:gI .string (.map p) (.str [100,101,108,101,116,101]) (.agg (.cons (.func (.func aue) (.cons (.ptr pc 0) .nil) .nil) (.cons (.int .i64 2) (.cons (.bool false) .nil)))) (h1.new (.map (List.take 7 (gQ pc))))=.ok V.undef (h1.new (.map (List.take 8 (gQ pc)))):=iZ hp rfl
 have m8:gI .string (.map p) (.str [114,101,110,97,109,101]) (.agg (.cons (.func (.func ams) (.cons (.ptr pc 0) .nil) .nil) (.cons (.int .i64 2) (.cons (.bool false) .nil)))) (h1.new (.map (List.take 8 (gQ pc))))=.ok V.undef (h1.new (.map (List.take 9 (gQ pc)))):=iZ hp rfl
 have m9:gI .string (.map p) (.str [108,105,115,116]) (.agg (.cons (.func (.func aud) (.cons (.ptr pc 0) .nil) .nil) (.cons (.int .i64 2) (.cons (.bool false) .nil)))) (h1.new (.map (List.take 9 (gQ pc))))=.ok V.undef (h1.new (.map (List.take 10 (gQ pc)))):=iZ hp rfl
 have m10:gI .string (.map p) (.str [115,116,97,116,117,115]) (.agg (.cons (.func (.func amq) (.cons (.ptr pc 0) .nil) .nil) (.cons (.int .i64 2) (.cons (.bool false) .nil)))) (h1.new (.map (List.take 10 (gQ pc))))=.ok V.undef (h1.new (.map (List.take 11 (gQ pc)))):=iZ hp rfl
 have m11:gI .string (.map p) (.str [97,112,112,101,110,100]) (.agg (.cons (.func (.func amv) (.cons (.ptr pc 0) .nil) .nil) (.cons (.int .i64 2) (.cons (.bool false) .nil)))) (h1.new (.map (List.take 11 (gQ pc))))=.ok V.undef (h1.new (.map (List.take 12 (gQ pc)))):=iZ hp rfl
 have m12:gI .string (.map p) (.str [99,104,101,99,107]) (.agg (.cons (.func (.func auh) (.cons (.ptr pc 0) .nil) .nil) (.cons (.int .i64 3) (.cons (.bool false) .nil)))) (h1.new (.map (List.take 12 (gQ pc))))=.ok V.undef (h1.new (.map (List.take 13 (gQ pc)))):=iZ hp rfl
 have m13:gI .string (.map p) (.str [99,108,111,115,101]) (.agg (.cons (.func (.func arq) (.cons (.ptr pc 0) .nil) .nil) (.cons (.int .i64 3) (.cons (.bool false) .nil)))) (h1.new (.map (List.take 13 (gQ pc))))=.ok V.undef (h1.new (.map (List.take 14 (gQ pc)))):=iZ hp rfl
 have m14:gI .string (.map p) (.str [101,120,112,117,110,103,101]) (.agg (.cons (.func (.func ais) (.cons (.ptr pc 0) .nil) .nil) (.cons (.int .i64 3) (.cons (.bool true) .nil)))) (h1.new (.map (List.take 14 (gQ pc))))=.ok V.undef (h1.new (.map (List.take 15 (gQ pc)))):=iZ hp rfl
 have m15:gI .string (.map p) (.str [115,101,97,114,99,104]) (.agg (.cons (.func (.func amr) (.cons (.ptr pc 0) .nil) .nil) (.cons (.int .i64 3) (.cons (.bool true) .nil)))) (h1.new (.map (List.take 15 (gQ pc))))=.ok V.undef (h1.new (.map (List.take 16 (gQ pc)))):=iZ hp rfl
 have m16:gI .string (.map p) (.str [102,101,116,99,104]) (.agg (.cons (.func (.func arp) (.cons (.ptr pc 0) .nil) .nil) (.cons (.int .i64 3) (.cons (.bool true) .nil)))) (h1.new (.map (List.take 16 (gQ pc))))=.ok V.undef (h1.new (.map (List.take 17 (gQ pc)))):=iZ hp rfl
 have m17:gI .string (.map p) (.str [115,116,111,114,101]) (.agg (.cons (.func (.func aro) (.cons (.ptr pc 0) .nil) .nil) (.cons (.int .i64 3) (.cons (.bool true) .nil)))) (h1.new (.map (List.take 17 (gQ pc))))=.ok V.undef (h1.new (.map (List.take 18 (gQ pc)))):=iZ hp rfl
 have m18:gI .string (.map p) (.str [99,111,112,121]) (.agg (.cons (.func (.func auf) (.cons (.ptr pc 0) .nil) .nil) (.cons (.int .i64 3) (.cons (.bool true) .nil)))) (h1.new (.map (List.take 18 (gQ pc))))=.ok V.undef (h1.new (.map (List.take 19 (gQ pc)))):=iZ hp rfl
 have m19:gI .string (.map p) (.str [109,111,118,101]) (.agg (.cons (.func (.func auc) (.cons (.ptr pc 0) .nil) .nil) (.cons (.int .i64 3) (.cons (.bool true) .nil)))) (h1.new (.map (List.take 19 (gQ pc))))=.ok V.undef (h1.new (.map (List.take 20 (gQ pc)))):=iZ hp rfl
 have mAll:List.take 20 (gQ pc)=gQ pc:=rfl
 obtain⟨h2,hh2⟩:∃h2,h2=h1.new (.map (List.take 20 (gQ pc))):=⟨_,rfl⟩
 have k2:Kn h2 p (.map (gQ pc)):=by rw [hh2,hp,mAll];exact Kn.new _ _
 have c2:Nw h1 h2:=by rw [hh2];exact Nw.new _ _
 have k12:=k1.nw c2
 obtain⟨h3,hh3⟩:∃h3,h3=h2.put pc (some (.cells (.rw tCn true) [.bool false,.bY,.bool false,iV 0,.map p])):=⟨_,rfl⟩
 have S3:aO 1 (.ptr pc 4) (.map p) h2=.ok V.undef h3:=by rw [hh3];exact k12.st (q:=4) ⟨rfl,rfl⟩ (by simp)
 have S3':aO 1 (.ptr pc 4) (.map p) (h1.new (.map (List.take 20 (gQ pc))))=.ok V.undef h3:=by rw [←hh2];exact S3
 have hne:pc≠p:=fun e=>by rw [hpc,hp] at e;have:=congrArg Pos.nat e;omega
 have c3:Ch (fun j=>j=pc) h2 h3:=by rw [hh3];exact Ch.put _ _ rfl
 refine⟨pc,p,h3,?_,by rw [hh3];exact k12.put _,k2.ch c3 fun e=>hne e.symm,hne,(c1.trans c2).then c3 fun j hj e=>by rw [e,hpc] at hj;omega,by rw [hpc];omega,by rw [hp];omega⟩
 rw [aNb]
 simp only [vvB,Nat.reduceEqDiff,reduceCtorEq,↓reduceIte,aIP,aGF,aGE,aGD,aGC,B1,X1,M0,aNC,aPK,m0,m1,m2,m3,m4,m5,m6,m7,m8,m9,m10,m11,m12,m13,m14,m15,m16,m17,m18,m19,S3']
 simp only [aT,bD,vvB,Nat.reduceEqDiff,reduceCtorEq,↓reduceIte,bF]
theorem dL.world(a:dL h F ps A pl ib cb fb vm vl I)(kc:Kn h pc (.cells (.rw tCn true) [.bool false,.bY,.bool false,iV 0,.map im]))(km:Kn h im (.map (gQ pc)))(hne:pc≠im)(hF:∀j,F j→j≠pc∧j≠im):
  World h pc im ps {acc:=A,inn:=false,only:=false,cnt:=0,vw:=none} F (fun _=>False) pl ib cb fb vm vl .bY I:=
 ⟨a,kc,km,⟨rfl,fun _ q=>q⟩,hne,fun j f=>⟨fun q=>q,hF j f⟩,fun _ q=>q.elim⟩
end Go.Proofs.Im

noncomputable section
namespace Go.Im
open Go Go.Vm Go.Ln
def avD:Ln.Got:=⟨1,(.cons 1 [97] .nil (.cons 1 [76,79,71,73,78] .nil (.cons 1 [117] .nil (.cons 1 [112] .nil .nil))))⟩
def aqb:Ln.Got:=⟨1,(.cons 1 [98] .nil (.cons 1 [83,69,76,69,67,84] .nil (.cons 1 [73,78,66,79,88] .nil .nil)))⟩
end Go.Im
namespace Go.Proofs.Im
open Go Go.Proofs Go.Vm Go.Ln Go.Im
set_option maxRecDepth 100000
variable{bb:Nat}{h h' g h0:Hp}{P F I J Z:Pos→Prop}{ps pl ib p ir pc im:Pos}{A:Acc}{cb:Cap}{fb only u last bare:Bool}{vm vl vv vw:V}{id:Int}{k f n:Nat}{b:Bx}{st:Sn}
theorem am1{l:List Nat}(h:(l.all fun y=>Nat.blt y 256)=true):∀y∈l,y<256:=fun y hy=>by
 have:=List.all_eq_true.1 h y hy
 simpa [Nat.blt_eq] using this
theorem abe{n:Nat}{a b c:Int}(hn:n<100)(ha:0≤a∧a<100)(hb:0≤b∧b<100)(hc:0≤c∧c<100):(jK n a b c).length≤1000∧∀x∈jK n a b c,x<256:=by
 have d1:=sZ hn
 have d2:=sZ (n:=a.toNat) (by omega)
 have d3:=sZ (n:=b.toNat) (by omega)
 have d4:=sZ (n:=c.toNat) (by omega)
 have one:∀(p d:List Nat),(p.all fun y=>Nat.blt y 256)=true→(∀c∈d,c<256)→∀t∈ [p++d++ [93]],∀c∈t,c<256:=fun p d hp hd t ht c hc=>by
  simp only [List.mem_singleton] at ht
  subst ht
  rcases List.mem_append.1 hc with q|q
  ·rcases List.mem_append.1 q with q|q
   ·exact am1 hp c q
   ·exact hd c q
  ·simp at q;omega
 have lit:∀(p:List Nat),(p.all fun y=>Nat.blt y 256)=true→∀t∈ [p],∀c∈t,c<256:=fun p hp t ht c hc=>by
  simp only [List.mem_singleton] at ht
  subst ht
  exact am1 hp c hc
 refine⟨by simp [jK,lineS,dV];omega,fun x hx=>?_⟩
 unfold jK at hx
 rcases List.mem_append.1 hx with q|hx
 ·exact wL (lit _ (by decide)) x q
 rcases List.mem_append.1 hx with q|hx
 ·refine wL (fun t ht c hc=>?_) x q
  simp only [List.mem_cons,List.not_mem_nil,or_false] at ht
  rcases ht with rfl|rfl|rfl
  ·exact am1 (l:= [42]) (by decide) c hc
  ·exact d1.2.1 c hc
  ·exact am1 (l:=ahT) (by decide) c hc
 rcases List.mem_append.1 hx with q|hx
 ·exact wL (lit _ (by decide)) x q
 rcases List.mem_append.1 hx with q|hx
 ·exact wL (one _ _ (by decide) d2.2.1) x q
 rcases List.mem_append.1 hx with q|hx
 ·exact wL (one _ _ (by decide) d3.2.1) x q
 ·exact wL (one _ _ (by decide) d4.2.1) x hx
theorem aCD(hi:st.inn=false)(hv:st.vw=none)(hc:0≤st.cnt∧st.cnt<1000):mG pc im ps avD st (okT [97] []) true {st with cnt:=st.cnt+1,inn:=true}:=by
 have:=mG.cmd (pc:=pc) (im:=im) (ps:=ps) (st:=st) (g:=avD) (x:=⟨1,[97],.nil⟩) (y:=⟨1,[76,79,71,73,78],.nil⟩) (kk:=0) (tx:= []) (last:=false) (bare:=false) (s2:= []) (st2:={st with cnt:=st.cnt+1,inn:=true}) rfl rfl rfl rfl rfl ⟨by decide,by decide⟩ ⟨by decide,by decide⟩ ⟨hc.1,by omega⟩
  (Dw.of (n:=1) (f:=aHj) (u:=false) (by decide) rfl (.inr (.inl ⟨rfl,hi⟩)) (fun bb ir vw P h0 Z h L F J pl ib cb fb vm vl vv I q=>by
   obtain⟨h2,e,r⟩:=aDU q rfl rfl rfl
   exact⟨h2,e,r⟩) rfl) (.inl rfl) ⟨by simp,by simp⟩ ⟨by simp,by simp⟩ (fun _ _=>hv) (by simp [vI,okT,lineS,dV,XR,hv])
 have e1:vI 0 [97] [] [] false {st with cnt:=st.cnt+1,inn:=true}=okT [97] []:=by
  unfold vI
  rw [if_neg (by decide),if_neg (by simp),show({st with cnt:=st.cnt+1,inn:=true}:Sn).vw=st.vw from rfl,hv]
  rfl
 have e2:KI 0 false {st with cnt:=st.cnt+1,inn:=true}={st with cnt:=st.cnt+1,inn:=true}:=by
  unfold KI
  rw [if_neg (by simp)]
  simp only [Sn.mk.injEq,true_and]
  rw [hv];rfl
 rw [e1,e2] at this
 exact this
theorem ayT(hi:st.inn=true)(hc:0≤st.cnt∧st.cnt<1000)(hC:CanBox st.acc k b):mG pc im ps aqb st (jK (Wn st.acc.mails b.id).length b.valid b.next st.acc.clock++okT [98] rwS) true {st with cnt:=st.cnt+1,only:=false,vw:=some (gX st.acc b.id)}:=by
 have hok:=abe (n:=(Wn st.acc.mails b.id).length) (by have:=hC.few;omega) hC.valid hC.next ⟨hC.small.clock.1,hC.clock⟩
 have:=mG.cmd (pc:=pc) (im:=im) (ps:=ps) (st:=st) (g:=aqb) (x:=⟨1,[98],.nil⟩) (y:=⟨1,[83,69,76,69,67,84],.nil⟩) (kk:=0) (tx:=rwS) (last:=false) (bare:=true) (s2:=jK (Wn st.acc.mails b.id).length b.valid b.next st.acc.clock) (st2:={st with cnt:=st.cnt+1,only:=false,vw:=some (gX st.acc b.id)}) rfl rfl rfl rfl rfl ⟨by decide,by decide⟩ ⟨by decide,by decide⟩ ⟨hc.1,by omega⟩
  (Dw.of (n:=2) (f:=Uo) (u:=false) (by decide) rfl (.inr (.inr (.inl ⟨rfl,hi⟩))) (fun bb ir vw P h0 Z h L F J pl ib cb fb vm vl vv I q=>by
   obtain⟨h2,e,r⟩:=asn q (.inl rfl) rfl rfl rfl hC (by simp)
   exact⟨h2,e,r⟩) rfl) (.inl rfl) ⟨by decide,by decide⟩ ⟨by omega,hok.2⟩ (fun _ e=>by cases e) (by simp [vI,okT,lineS,dV];omega)
 have e1:vI 0 [98] rwS (jK (Wn st.acc.mails b.id).length b.valid b.next st.acc.clock) true {st with cnt:=st.cnt+1,only:=false,vw:=some (gX st.acc b.id)}=jK (Wn st.acc.mails b.id).length b.valid b.next st.acc.clock++okT [98] rwS:=by
  unfold vI
  rw [if_neg (by decide),if_pos rfl]
 have e2:KI 0 true ({st with cnt:=st.cnt+1,only:=false,vw:=some (gX st.acc b.id)}:Sn)={st with cnt:=st.cnt+1,only:=false,vw:=some (gX st.acc b.id)}:=by
  unfold KI
  rw [if_pos (.inr rfl)]
 rw [e1,e2] at this
 exact this
theorem aPP(a:dL h F ps A pl ib cb fb vm vl I)(hC:CanBox A k b)(hG:Ik.aN≤h.next.nat):
  ∃pc im h',aia [.ptr ps 0] h=.ok (.ptr pc 0) h'∧WE h F h' pc im ps {acc:=A,inn:=true,only:=false,cnt:=2,vw:=some (gX A b.id)}∧h.next.nat≤pc.nat:=by
 obtain⟨pc,im,h1,e1,kc,km,hne,c1,l1,l2⟩:=aI3 h
 have a1:=a.nw c1
 have w1:=a1.world kc km hne fun j f=>⟨fun e=>by have:=a.lt j f;rw [e] at this;omega,fun e=>by have:=a.lt j f;rw [e] at this;omega⟩
 obtain⟨t,ha⟩:∃t,Alls pc im ps (jR Ik.flA) {acc:=A,inn:=false,only:=false,cnt:=0,vw:=none} t {acc:=A,inn:=true,only:=false,cnt:=2,vw:=some (gX A b.id)}:=by
  rw [show jR Ik.flA= [avD,aqb] from rfl]
  exact⟨_,.go (aCD rfl rfl ⟨by simp,by simp⟩) (.go (ayT (st:={acc:=A,inn:=true,only:=false,cnt:=1,vw:=none}) rfl ⟨by simp,by simp⟩ hC) (.nil _))⟩
 obtain⟨h2,e2,F',J',pl',ib',cb',fb',vm',vl',vv',I',w2,f2,c2⟩:=aht w1 (by have:=c1.next;omega) qU ha
 refine⟨pc,im,h2,?_,⟨F',J',pl',ib',cb',fb',vm',vl',vv',I',w2,fun j f=>?_,?_⟩,l1⟩
 ·rw [aEj]
  simp only [vvB,Nat.reduceEqDiff,reduceCtorEq,↓reduceIte,aqV,ast,asr,asq,aso,e1,e2]
  simp only [aT,bD,vvB,Nat.reduceEqDiff,reduceCtorEq,↓reduceIte,bF]
 ·have n1:=c1.next
  rcases f2 j f with(q|q|rfl|rfl)|q
  ·exact .inl q
  ·exact q.elim
  ·exact .inr l1
  ·exact .inr l2
  ·exact .inr (by omega)
 ·exact c1.ch.trans c2 fun j hj f=>by
   rcases f with q|q|rfl|rfl
   ·exact q
   ·exact q.elim
   ·omega
   ·omega
end Go.Proofs.Im

noncomputable section
namespace Go.Proofs.Im
open Go Go.Proofs Go.Vm Go.Ln Go.Im
set_option maxRecDepth 100000
variable{bb:Nat}{h h' h0:Hp}{P F I J Z:Pos→Prop}{ps pl ib ir pc im:Pos}{cb:Cap}{fb only u:Bool}{vm vl vv vw:V}{f n:Nat}{st:Sn}{L:List V}{s nm:List Nat}{w:Wds}
theorem aNq(q:Rq bb h0 Z h pc im ps ir false w s st L vw P F J pl ib cb fb vm vl vv I)(hnm:nm≠aCy)(hf:H8 nm abd=some (f,3,u))(hv:st.vw=none):
  ∃h',aaw [.ptr pc 0,.ptr ir 0,.str nm] h=.ok (anV 1 Ur false false false) h'∧zF bb h0 Z vw P h' pc im ps ir false w s st:=by
 obtain⟨h1,hh1,c1,k1⟩:=mkW h (.cells (.rw tA true) zAn)
 have q1:=q.nw c1
 have eN:(nm= [117,105,100])=False:=eq_false hnm
 obtain⟨h2,hh2⟩:∃h2,h2=(h1.new (.cells (.rw apB true) [.gG,.int .i64 0,.bool false])).put h1.next (some (.cells (.rw apB true) [.func (.func f) (.cons (.ptr pc 0) .nil) .nil,.int .i64 3,.bool u])):=⟨_,rfl⟩
 have c2:Nw h1 h2:=by rw [hh2];exact TW _ _ _
 have g2:Kn h2 h1.next (.cells (.rw apB true) [.func (.func f) (.cons (.ptr pc 0) .nil) .nil,.int .i64 3,.bool u]):=by rw [hh2];exact(Kn.new h1 _).put _
 have q2:=q1.nw c2
 have k2:=k1.nw c2
 obtain⟨h3,e3,c3⟩:=aHm h2
 have e3:aib [] h2=.ok (anV 1 Ur false false false) h3:=e3
 have q3:=q2.nw c3
 have k3:=k2.nw c3
 obtain⟨h4,S4,k4,r4⟩:=q3.fin q3.Y3.mk' k3 (by
  intro e;rcases e with e|e
  ·have:=q.wd.lt _ e;omega
  ·have:=(OfB.from q.bd _ e).2;omega) q.chz.next (anL 1 Ur false false false) rfl
 have P4:=q1.wd.con.ld (q:=4) (x:=.map im) rfl
 have lk:=arN q1.wd.map.1 (.agg (.cons .gG (.cons (.int .i64 0) (.cons (.bool false) .nil)))) nm
 rw [hf] at lk
 simp only [Option.map_some,Option.getD_some,Option.isSome_some,aDy] at lk
 have lk':Y6 .string true (.agg (.cons .gG (.cons (.int .i64 0) (.cons (.bool false) .nil)))) (.map im) (.str nm) h1=.ok (.tuple (.cons (.agg (.cons (.func (.func f) (.cons (.ptr pc 0) .nil) .nil) (.cons (.int .i64 3) (.cons (.bool u) .nil)))) (.cons (.bool true) .nil))) h1:=lk
 have X1:=g2.ld (q:=1) (x:=.int .i64 3) rfl
 have U1:=q2.kr.ld q2.l4
 have hvv:vv=.bY:=by have:=q.wd.view;rw [hv] at this;exact this.1
 have C1:=q2.wd.con.ld (q:=1) (x:=vv) rfl
 rw [hvv] at C1
 rw [asR,asI]
 suffices hT:aU Tryz.prog [.cell 6 tA] (RunT bb h0 Z vw P pc im ps ir false w (anL 1 Ur false false false) s st)
   (aB MS (aB (aB MR (aV (.tmp 11) (aB (aB ab6 (aV (.tmp 17) (aB ab5 Out.ret) Out.nor)) (aB ab4 ab3)) Out.nor)) apE) (T.set (some (.str nm)) (Pos.of 2) (T.set (some (.ptr ir 0)) (Pos.of 1) (T.set (some (.ptr pc 0)) (Pos.of 0) T.nil))) h) by
  obtain⟨r,h',e,rfl,q⟩:=hT
  exact⟨h',e,q⟩
 simp (disch:=omega) only [vvB,Nat.reduceEqDiff,reduceCtorEq,↓reduceIte,eN,MS,MR,←hh1]
 unfold apE aCH
 simp (disch:=omega) only [vvB,Nat.reduceEqDiff,reduceCtorEq,↓reduceIte,VR,VQ,VP,CO,CJ,CG,CB,Xr,Cm,agT,P4,lk',ahH,auk (dD _ _),←hh2,U1,X1,C1,ay2,e3,S4,Int.reduceEq]
 exact aU.ret (by simp only [bD,vvB,Nat.reduceEqDiff,reduceCtorEq,↓reduceIte,qR,k4.ldN (n:=5) rfl,bF]) ⟨rfl,r4⟩
theorem Dw.no{w:Wds}(hnm:nm≠aCy)(hf:H8 nm abd=some (f,3,u))(hv:st.vw=none):Dw pc im ps w nm st (anL 1 Ur false false false) [] st:=
 fun bb h0 Z h ir L vw P F J pl ib cb fb vm vl vv I q=>by
  obtain⟨h',e,r⟩:=aNq q hnm hf hv
  exact⟨h',vw,P,w,false,e,r⟩
end Go.Proofs.Im

noncomputable section
namespace Go.Im
open Go Go.Vm Go.Ln
abbrev Bf:List Nat:= [101,114,114,111,114,32,54]
end Go.Im
namespace Go.Proofs.Im
open Go Go.Proofs Go.Vm Go.Ln Go.Im
set_option maxRecDepth 100000
variable{h h' g h0:Hp}{P F I J Z:Pos→Prop}{ps pl ib ir pc im:Pos}{cb:Cap}{fb uid only:Bool}{v vm vl vv vw:V}{st:Sn}{L:List V}{s:List Nat}{w:Wds}{bb:Nat}
theorem axB(h:Hp):∃h',N7 [iV 6] h=.ok (anV 1 Bf false false false) h'∧Nw h h':=by
 obtain⟨h1,hh1⟩:∃h1,h1=h.new (.cells (.rw tA true) zAn):=⟨_,rfl⟩
 obtain⟨h2,hh2⟩:∃h2,h2=h1.put h.next (some (.cells (.rw tA true) (anL 1 Bf false false false))):=⟨_,rfl⟩
 have k1:Kn h1 h.next (.cells (.rw tA true) zAn):=by rw [hh1];exact Kn.new _ _
 have S2:aO 5 (.ptr h.next 0) (anV 1 Bf false false false) h1=.ok V.undef h2:=by rw [hh2];exact k1.stN rfl rfl
 have k2:Kn h2 h.next (.cells (.rw tA true) (anL 1 Bf false false false)):=by rw [hh2];exact k1.put _
 have D:lK [iV 6] h1=.ok (.str [54]) h1:=WU (n:=6) (by omega) h1
 have A1:aI .add .none (.str [101,114,114,111,114,32]) (.str [54]) h1=.ok (.str Bf) h1:=dH (by decide)
 rw [arb]
 simp (disch:=omega) only [vvB,Nat.reduceEqDiff,reduceCtorEq,↓reduceIte,YN,ad3,ad2,←hh1,D,A1,aQe,S2]
 refine⟨h2,by simp only [aT,bD,vvB,Nat.reduceEqDiff,reduceCtorEq,↓reduceIte,qR,k2.ldN (n:=5) rfl,bF],?_⟩
 rw [hh2,hh1];exact(Nw.new h _).put (Nat.le_refl _) _
theorem akg(q:Rq bb h0 Z h pc im ps ir uid w s st L vw P F J pl ib cb fb vm vl vv I)(only:Bool)(hw1:w.len=1)(hwt:kK w= [nY])(hwl:xH w=false)(hS:st.acc.Small)(hT:TopB st.acc.boxes)(hb:iM st.acc.boxes nY=none):
  ∃h',qI [.ptr pc 0,.ptr ir 0,.bool only] h=.ok (anV 1 Bf false false false) h'∧zF bb h0 Z vw P h' pc im ps ir uid w s {st with only:=false,vw:=none}:=by
 obtain⟨h1,hh1,c1,k1⟩:=mkW h (.cells (.rw tA true) zAn)
 have q1:=q.nw c1
 have na1:¬OfB ir 5 L h.next:=fun o=>by have:=(o.from q.bd _).2;omega
 have nf1:¬Ft F J pc im h.next:=fun o=>by have:=q.wd.lt _ o;omega
 have e2:=akx (n:=1) q1.bd q1.l3 q1.ws (by omega)
 obtain⟨r2,h2,e2,c2,hN⟩:=e2
 have e2':XJ [.ptr ir 0,.int .i64 1] h1=.ok r2 h2:=e2
 obtain⟨v,rfl,ov,hid⟩:∃v,r2=.tuple (.cons v (.cons (.bool true) .nil))∧Ow 0 h2 9 1 v 1 ([nY].map V.str)∧∀j,aX v=some j→h1.next.nat≤j.nat:=by
  rcases hN with⟨hL,-⟩|⟨-,v,rfl,ov,hid⟩
  ·rw [hwl] at hL;cases hL
  ·rw [hw1,hwt] at ov
   exact⟨v,by rw [decide_eq_true hw1],ov,hid⟩
 obtain⟨iv,fv,hv,kv,hiv⟩:∃iv fv,v=.slice iv 0 1 (.un 1)∧Kn h2 iv (.cells (.rw 9 fv) [.str nY])∧h1.next.nat≤iv.nat:=by
  rcases ov.is with⟨h0,_⟩|⟨i,e,hb,hi,f,hg⟩
  ·omega
  ·exact⟨i,f,e,⟨hg,hi⟩,hid i (by rw [e];rfl)⟩
 have ix:∀g,bU 1 v (.int .i64 0) g=.ok (.ptr iv 0) g:=fun g=>by rw [hv];rfl
 have c2':Nw h1 h2:=c2
 have q2:=q1.nw c2'
 have k2:=k1.nw c2'
 have n1:=c1.next
 have n2:=c2'.next
 have hpc:=q.wd.con.2
 obtain⟨h3,h4,S3,S4,q4,c4⟩:=q2.leave
 have k4:=k2.ch c4 fun e=>by rw [←e] at hpc;omega
 have kv4:=kv.ch c4 fun e=>by rw [←e] at hpc;omega
 have V4:=kv4.ld (q:=0) (x:=.str nY) rfl
 obtain⟨h5,e5,c5⟩:=azo q4.wd.acc hS hT q4.kr q4.l1 hb
 have q5:=q4.nw c5
 have k5:=k4.nw c5
 obtain⟨h6,e6,c6⟩:=axB h5
 have q6:=q5.nw c6
 have k6:=k5.nw c6
 obtain⟨h7,hh7⟩:∃h7,h7=h6.put h.next (some (.cells (.rw tA true) (anL 1 Bf false false false))):=⟨_,rfl⟩
 have S7:aO 5 (.ptr h.next 0) (anV 1 Bf false false false) h6=.ok V.undef h7:=by rw [hh7];exact k6.stN rfl rfl
 have k7:Kn h7 h.next (.cells (.rw tA true) (anL 1 Bf false false false)):=by rw [hh7];exact k6.put _
 have c7:Ch (fun j=>j=h.next) h6 h7:=by rw [hh7];exact Ch.put _ _ rfl
 have hz:=q.chz.next
 have nf7:¬Ft F (fun _=>False) pc im h.next:=fun f=>by
  rcases f with f|f|f|f
  ·exact nf1 (.inl f)
  ·exact f
  ·exact nf1 (.inr (.inr (.inl f)))
  ·exact nf1 (.inr (.inr (.inr f)))
 have q7:=q6.atG c7 na1 nf7 (by omega)
 refine⟨h7,?_,q7.mk'⟩
 rw [aau]
 simp (disch:=omega) only [vvB,Nat.reduceEqDiff,reduceCtorEq,↓reduceIte,EN,Fh,Fe,Fb,E8,kQ,EZ,ad4,←hh1,e2',S3,S4,ix,V4,e5,e6,S7,Int.reduceEq,decide_false,decide_true]
 simp only [aT,bD,vvB,Nat.reduceEqDiff,reduceCtorEq,↓reduceIte,qR,k7.ldN (n:=5) rfl,bF]
theorem azn(q:Rq bb h0 Z h pc im ps ir uid w s st L vw P F J pl ib cb fb vm vl vv I)(hw1:w.len=1)(hwt:kK w= [nY])(hwl:xH w=false)(hS:st.acc.Small)(hT:TopB st.acc.boxes)(hb:iM st.acc.boxes nY=none):
  ∃h',PW [.ptr pc 0,.ptr ir 0] h=.ok (anV 1 Bf false false false) h'∧zF bb h0 Z vw P h' pc im ps ir uid w s {st with only:=false,vw:=none}:=by
 obtain⟨h1,hh1,c1,k1⟩:=mkW h (.cells (.rw tA true) zAn)
 have q1:=q.nw c1
 obtain⟨h2,e2,r2⟩:=akg q1.Y3 false hw1 hwt hwl hS hT hb
 obtain⟨h3,S3,k3,r3⟩:=q1.fin r2 k1 q.away q.chz.next (anL 1 Bf false false false) rfl
 refine⟨h3,?_,r3⟩
 rw [ahm]
 simp (disch:=omega) only [vvB,Nat.reduceEqDiff,reduceCtorEq,↓reduceIte,Xw,Yx,Yw,←hh1,e2,S3]
 simp only [aT,bD,vvB,Nat.reduceEqDiff,reduceCtorEq,↓reduceIte,qR,k3.ldN (n:=5) rfl,bF]
theorem aqJ(q:Rq bb h0 Z h pc im ps ir uid w s st L vw P F J pl ib cb fb vm vl vv I)(hw1:w.len=1)(hwt:kK w= [nY])(hwl:xH w=false)(hS:st.acc.Small)(hT:TopB st.acc.boxes)(hb:iM st.acc.boxes nY=none):
  ∃h',C9 [.ptr pc 0,.ptr ir 0] h=.ok (anV 1 Bf false false false) h'∧zF bb h0 Z vw P h' pc im ps ir uid w s {st with only:=false,vw:=none}:=by
 obtain⟨h1,hh1,c1,k1⟩:=mkW h (.cells (.rw tA true) zAn)
 have q1:=q.nw c1
 obtain⟨h2,e2,r2⟩:=akg q1.Y3 true hw1 hwt hwl hS hT hb
 obtain⟨h3,S3,k3,r3⟩:=q1.fin r2 k1 q.away q.chz.next (anL 1 Bf false false false) rfl
 refine⟨h3,?_,r3⟩
 rw [XH]
 simp (disch:=omega) only [vvB,Nat.reduceEqDiff,reduceCtorEq,↓reduceIte,Jv,MF,MC,←hh1,e2,S3]
 simp only [aT,bD,vvB,Nat.reduceEqDiff,reduceCtorEq,↓reduceIte,qR,k3.ldN (n:=5) rfl,bF]
end Go.Proofs.Im

noncomputable section
namespace Go.Im
open Go Go.Vm Go.Ln
def aDk:Ln.Got:=⟨1,(.cons 1 [120] .nil (.cons 1 [83,69,76,69,67,84] .nil (.cons 1 [105,110,66,79,88] .nil .nil)))⟩
def aDj:Ln.Got:=⟨1,(.cons 1 [121] .nil (.cons 1 [83,69,76,69,67,84] .nil (.cons 1 [110,111,110,101] .nil .nil)))⟩
def aDm:Ln.Got:=⟨1,(.cons 1 [120] .nil (.cons 1 [69,88,65,77,73,78,69] .nil (.cons 1 [105,110,66,79,88] .nil .nil)))⟩
def aDl:Ln.Got:=⟨1,(.cons 1 [121] .nil (.cons 1 [69,88,65,77,73,78,69] .nil (.cons 1 [110,111,110,101] .nil .nil)))⟩
def ahP:Ln.Got:=⟨1,(.cons 1 [122] .nil (.cons 1 [67,72,69,67,75] .nil .nil))⟩
abbrev XP:List Nat:= [83,69,76,69,67,84]
abbrev XQ:List Nat:= [69,88,65,77,73,78,69]
abbrev sl1:List Nat:= [42,32,70,76,65,71,83,32,40,92,65,110,115,119,101,114,101,100,32,92,70,108,97,103,103,101,100,32,92,68,101,108,101,116,101,100,32,92,83,101,101,110,32,92,68,114,97,102,116,41,13,10,42,32]
abbrev sl2:List Nat:= [32,69,88,73,83,84,83,13,10,42,32,48,32,82,69,67,69,78,84,13,10,42,32,79,75,32,91,85,73,68,86,65,76,73,68,73,84,89,32,49,93,13,10,42,32,79,75,32,91,85,73,68,78,69,88,84,32]
abbrev sl3:List Nat:= [93,13,10,42,32,79,75,32,91,72,73,71,72,69,83,84,77,79,68,83,69,81,32]
abbrev sl4:List Nat:= [93,13,10,120,32,79,75,32,91]
abbrev sl5:List Nat:= [93,32,100,111,110,101,13,10]
abbrev aND:List Nat:= [121,32,78,79,32,101,114,114,111,114,32,54,13,10,122,32,78,79,32,115,116,97,116,101,13,10]
theorem aup(n:Nat)(ok:List Nat)(hok:ok≠ []):jK n 1 ((n:Int)+1) ((n:Int)+1)++okT [120] ok=sl1++eP n++sl2++eP (n+1)++sl3++eP (n+1)++sl4++ok++sl5:=by
 have e1:eP (1:Int).toNat= [49]:=by decide
 have e2:((n:Int)+1).toNat=n+1:=by omega
 unfold jK okT
 rw [e1,e2,if_neg hok]
 simp [lineS,dV,List.append_assoc]
end Go.Im
namespace Go.Proofs.Im
open Go Go.Proofs Go.Vm Go.Ln Go.Im
set_option maxRecDepth 100000
variable{h h' g:Hp}{P F I J:Pos→Prop}{ps pl ib pc im:Pos}{A:Acc}{cb:Cap}{fb:Bool}{v vm vl vv:V}{ts:List (List Nat)}{k n:Nat}{b:Bx}{st:Sn}
theorem aEC(hi:st.inn=true)(hc:0≤st.cnt∧st.cnt<1000)(hC:CanBox st.acc k b):mG pc im ps aDk st (jK (Wn st.acc.mails b.id).length b.valid b.next st.acc.clock++okT [120] rwS) true {st with cnt:=st.cnt+1,only:=false,vw:=some (gX st.acc b.id)}:=by
 have hok:=abe (n:=(Wn st.acc.mails b.id).length) (by have:=hC.few;omega) hC.valid hC.next ⟨hC.small.clock.1,hC.clock⟩
 exact mG.cmd (pc:=pc) (im:=im) (ps:=ps) (st:=st) (g:=aDk) (x:=⟨1,[120],.nil⟩) (y:=⟨1,[83,69,76,69,67,84],.nil⟩) (kk:=0) (tx:=rwS) (last:=false) (bare:=true) (s2:=jK (Wn st.acc.mails b.id).length b.valid b.next st.acc.clock) (st2:={st with cnt:=st.cnt+1,only:=false,vw:=some (gX st.acc b.id)}) rfl rfl rfl rfl rfl ⟨by decide,by decide⟩ ⟨by decide,by decide⟩ ⟨hc.1,by omega⟩
  (Dw.of (n:=2) (f:=Uo) (u:=false) (by decide) rfl (.inr (.inr (.inl ⟨rfl,hi⟩))) (fun bb ir vw P h0 Z h L F J pl ib cb fb vm vl vv I q=>by
   obtain⟨h2,e,r⟩:=asn q (.inr rfl) rfl rfl rfl hC (by simp)
   exact⟨h2,e,r⟩) rfl) (.inl rfl) ⟨by decide,by decide⟩ ⟨by omega,hok.2⟩ (fun _ e=>by cases e) (by simp [vI,okT,lineS,dV];omega)
theorem aEB(hi:st.inn=true)(hc:0≤st.cnt∧st.cnt<1000)(hS:st.acc.Small)(hT:TopB st.acc.boxes)(hb:iM st.acc.boxes nY=none):mG pc im ps aDj st ([121]++noS++Bf++ [13,10]) true {st with cnt:=st.cnt+1,only:=false,vw:=none}:=
 mG.cmd (pc:=pc) (im:=im) (ps:=ps) (st:=st) (g:=aDj) (x:=⟨1,[121],.nil⟩) (y:=⟨1,[83,69,76,69,67,84],.nil⟩) (kk:=1) (tx:=Bf) (last:=false) (bare:=false) (s2:= []) (st2:={st with cnt:=st.cnt+1,only:=false,vw:=none}) rfl rfl rfl rfl rfl ⟨by decide,by decide⟩ ⟨by decide,by decide⟩ ⟨hc.1,by omega⟩
  (Dw.of (n:=2) (f:=Uo) (u:=false) (by decide) rfl (.inr (.inr (.inl ⟨rfl,hi⟩))) (fun bb ir vw P h0 Z h L F J pl ib cb fb vm vl vv I q=>by
   obtain⟨h2,e,r⟩:=azn q rfl rfl rfl hS hT hb
   exact⟨h2,e,r⟩) rfl) (.inr rfl) ⟨by decide,by decide⟩ ⟨by simp,by simp⟩ (fun e=>by cases e) (by simp [vI])
theorem aEE(hi:st.inn=true)(hc:0≤st.cnt∧st.cnt<1000)(hC:CanBox st.acc k b):mG pc im ps aDm st (jK (Wn st.acc.mails b.id).length b.valid b.next st.acc.clock++okT [120] roS) true {st with cnt:=st.cnt+1,only:=true,vw:=some (gX st.acc b.id)}:=by
 have hok:=abe (n:=(Wn st.acc.mails b.id).length) (by have:=hC.few;omega) hC.valid hC.next ⟨hC.small.clock.1,hC.clock⟩
 exact mG.cmd (pc:=pc) (im:=im) (ps:=ps) (st:=st) (g:=aDm) (x:=⟨1,[120],.nil⟩) (y:=⟨1,[69,88,65,77,73,78,69],.nil⟩) (kk:=0) (tx:=roS) (last:=false) (bare:=true) (s2:=jK (Wn st.acc.mails b.id).length b.valid b.next st.acc.clock) (st2:={st with cnt:=st.cnt+1,only:=true,vw:=some (gX st.acc b.id)}) rfl rfl rfl rfl rfl ⟨by decide,by decide⟩ ⟨by decide,by decide⟩ ⟨hc.1,by omega⟩
  (Dw.of (n:=2) (f:=Nr) (u:=false) (by decide) rfl (.inr (.inr (.inl ⟨rfl,hi⟩))) (fun bb ir vw P h0 Z h L F J pl ib cb fb vm vl vv I q=>by
   obtain⟨h2,e,r⟩:=axC q (.inr rfl) rfl rfl rfl hC (by simp)
   exact⟨h2,e,r⟩) rfl) (.inl rfl) ⟨by decide,by decide⟩ ⟨by omega,hok.2⟩ (fun _ e=>by cases e) (by simp [vI,okT,lineS,dV];omega)
theorem aED(hi:st.inn=true)(hc:0≤st.cnt∧st.cnt<1000)(hS:st.acc.Small)(hT:TopB st.acc.boxes)(hb:iM st.acc.boxes nY=none):mG pc im ps aDl st ([121]++noS++Bf++ [13,10]) true {st with cnt:=st.cnt+1,only:=false,vw:=none}:=
 mG.cmd (pc:=pc) (im:=im) (ps:=ps) (st:=st) (g:=aDl) (x:=⟨1,[121],.nil⟩) (y:=⟨1,[69,88,65,77,73,78,69],.nil⟩) (kk:=1) (tx:=Bf) (last:=false) (bare:=false) (s2:= []) (st2:={st with cnt:=st.cnt+1,only:=false,vw:=none}) rfl rfl rfl rfl rfl ⟨by decide,by decide⟩ ⟨by decide,by decide⟩ ⟨hc.1,by omega⟩
  (Dw.of (n:=2) (f:=Nr) (u:=false) (by decide) rfl (.inr (.inr (.inl ⟨rfl,hi⟩))) (fun bb ir vw P h0 Z h L F J pl ib cb fb vm vl vv I q=>by
   obtain⟨h2,e,r⟩:=aqJ q rfl rfl rfl hS hT hb
   exact⟨h2,e,r⟩) rfl) (.inr rfl) ⟨by decide,by decide⟩ ⟨by simp,by simp⟩ (fun e=>by cases e) (by simp [vI])
theorem aiu(hv:st.vw=none)(hc:0≤st.cnt∧st.cnt<1000):mG pc im ps ahP st ([122]++noS++Ur++ [13,10]) true {st with cnt:=st.cnt+1}:=
 mG.cmd (pc:=pc) (im:=im) (ps:=ps) (st:=st) (g:=ahP) (x:=⟨1,[122],.nil⟩) (y:=⟨1,[67,72,69,67,75],.nil⟩) (kk:=1) (tx:=Ur) (last:=false) (bare:=false) (s2:= []) (st2:={st with cnt:=st.cnt+1}) rfl rfl rfl rfl rfl ⟨by decide,by decide⟩ ⟨by decide,by decide⟩ ⟨hc.1,by omega⟩
  (Dw.no (f:=auh) (u:=false) (by decide) rfl hv) (.inr rfl) ⟨by decide,by decide⟩ ⟨by simp,by simp⟩ (fun e=>by cases e) (by simp [vI])
theorem akR(h:Hp):TJ [] h=.ok (.bool true) h:=AX rfl h
theorem aP8{k:Nat}(hk:k<100)(h:Hp):zC [.int .i64 (k:Int)] h=.ok (.str (eP k)) h:=AX (aqp hk) h
theorem aPI{k:Nat}(hk:k+1<100)(h:Hp):zC [.int .i64 ((k:Int)+1)] h=.ok (.str (eP (k+1))) h:=AX (aqp hk) h
theorem aDS(r:Rws P (flat jH) 1 h v ts):∃z,TI [v] h=.ok (.bool z) h∧(z=false→ts.length≤20∧∀t∈ts,t.length≤600):=by
 suffices T:aU Tryz.prog [.tmp 2] (fun rr h'=>h'=h∧∃z,rr=.bool z∧(z=false→ts.length≤20∧∀t∈ts,t.length≤600)) (Tn (T.set (some v) (Pos.of 0) T.nil) h) by
  obtain⟨rr,h',e,rfl,z,rfl,q⟩:=T
  exact⟨z,by rw [atr];exact e,q⟩
 have rl:=r.len
 simp (disch:=omega) only [vvB,Nat.reduceEqDiff,reduceCtorEq,↓reduceIte,Tn,agq,agp]
 refine Oc.then (dR (n:=20) (fun μ fr g=>∃k:Nat,g=h∧fr.get (Pos.of 0)=some v∧fr.get (Pos.of 3)=some (.int .i64 (k:Int))∧k+μ=20∧k≤ts.length∧∀t∈ts.take k,t.length≤600)
  (A:=fun fr g=>g=h∧fr.get (Pos.of 0)=some v∧(ts.length≤20→∀t∈ts,t.length≤600)) (B:=fun fr g=>g=h∧fr.get (Pos.of 2)=some (.bool true)) (by rw [dS];omega) ?_ ?_) ?_ ?_
 ·exact⟨0,rfl,qK0,qK1,by omega,by omega,by simp⟩
 ·rintro μ fr g ⟨k,rfl,f0,f3,hk,hkl,ht⟩
  by_cases hz:k<ts.length
  ·by_cases hz2:k<20
   ·obtain⟨t,hx⟩:∃t,ts[k]?=some t:=⟨_,List.getElem?_eq_getElem hz⟩
    obtain⟨i,q,cs,ix,ex,-,-,-,ld,-⟩:=r.elt hx
    obtain rfl:cs=jH t:=ex
    have ld':=ld g rfl 0 (.str t) rfl
    rw [Nat.add_zero] at ld'
    by_cases hl:t.length≤600
    ·simp (disch:=omega) only [vvB,Nat.reduceEqDiff,reduceCtorEq,↓reduceIte,CW,Cj,agn,VD,f0,f3,rl,ix,ld']
     refine⟨μ - 1,by omega,k+1,rfl,qK2 f0,qK1,by omega,by omega,?_⟩
     intro u hu
     rw [amo hx] at hu
     rcases List.mem_append.1 hu with q|q
     ·exact ht u q
     ·simp at q;rw [q];exact hl
    ·simp (disch:=omega) only [vvB,Nat.reduceEqDiff,reduceCtorEq,↓reduceIte,CW,Cj,VD,agm,f0,f3,rl,ix,ld']
     exact⟨rfl,qK0⟩
   ·simp (disch:=omega) only [vvB,Nat.reduceEqDiff,reduceCtorEq,↓reduceIte,CW,Cj,f0,f3,rl]
    exact⟨rfl,rfl,qK2 f0,fun h=>by omega⟩
  ·simp (disch:=omega) only [vvB,Nat.reduceEqDiff,reduceCtorEq,↓reduceIte,CW,Cj,f0,f3,rl]
   refine⟨rfl,rfl,qK2 f0,fun _=>?_⟩
   rw [List.take_of_length_le (by omega)] at ht
   exact ht
 ·rintro fr g ⟨rfl,f0,ht⟩
  simp (disch:=omega) only [vvB,Nat.reduceEqDiff,reduceCtorEq,↓reduceIte,agl,f0,rl]
  exact aU.ret (qT0) ⟨rfl,decide ((ts.length:Int)>20),rfl,fun e=>by have hl:=of_decide_eq_false e;exact⟨by omega,ht (by omega)⟩⟩
 ·rintro fr g ⟨rfl,f2⟩
  exact aU.ret (qT1 f2) ⟨rfl,true,rfl,fun e=>by cases e⟩
end Go.Proofs.Im

noncomputable section
namespace Go.Proofs.Im
open Go Go.Proofs Go.Vm Go.Ln Go.Im
set_option maxRecDepth 100000
variable{h' g H:Hp}{P F I:Pos→Prop}{ps pl ib pc im:Pos}{A:Acc}{cb:Cap}{fb read:Bool}{v vm vl:V}{ts:List (List Nat)}{k n:Nat}{st:Sn}
theorem asT{A:Acc}(f:FilA ts A):iM A.boxes nY=none:=by
 rw [f.boxes]
 unfold iM
 have:Ny nY=nY:=by decide
 rw [this]
 simp [bxF]
theorem Nc(r:Rws P (flat jH) 1 H v ts)(h256:∀t∈ts,∀c∈t,c<256)(read:Bool)(hG:Ik.aN≤H.next.nat):∃h',yD [v,.bool read] H=.ok (.bool true) h':=by
 obtain⟨z,e0,hz⟩:=aDS r
 have rl:=r.len
 rw [aeu]
 suffices T:aU Tryz.prog [.tmp 4] (fun r _=>r=.bool true) (nU (T.set (some (.bool read)) (Pos.of 1) (T.set (some v) (Pos.of 0) T.nil)) H) by
  obtain⟨r,h',e,rfl⟩:=T
  exact⟨h',e⟩
 cases z with
 |true=>
  simp (disch:=omega) only [vvB,Nat.reduceEqDiff,reduceCtorEq,↓reduceIte,nU,uO,uN,Pq,e0,akR]
  exact aU.ret (qT0) rfl
 |false=>
  obtain⟨hn,ht⟩:=hz rfl
  obtain⟨ps,h1,A,F,pl,ib,cb,fb,vm,vl,I,e1,fA,a1,c1,f1⟩:=aEo r (by omega) fun t q=>⟨by have:=ht t q;omega,h256 t q⟩
  have hC:=fA.aNQ (by omega)
  obtain⟨pc,im,h2,e2,w2,-⟩:=aPP a1 hC (by have:=c1.next;omega)
  obtain⟨F2,J2,pl2,ib2,cb2,fb2,vm2,vl2,vv2,I2,W2,-,c2⟩:=w2
  have n1:=c1.next
  have n2:=c2.next
  have D1:=fun g=>aP8 (k:=ts.length) (by omega) g
  have D2:=fun g=>aPI (k:=ts.length) (by omega) g
  have l1:=(sZ (n:=ts.length) (by omega)).1
  have l2:=(sZ (n:=ts.length+1) (by omega)).1
  cases read with
  |false=>
   obtain⟨sx,hsx⟩:∃sx,sx= [120,32]++XP++ [32,105,110,66,79,88,13,10]:=⟨_,rfl⟩
   obtain⟨sy,hsy⟩:∃sy,sy= [121,32]++XP++ [32,110,111,110,101,13,10,122,32,67,72,69,67,75,13,10]:=⟨_,rfl⟩
   have A1:∀g,aI .add .none (.str [120,32]) (.str XP) g=.ok (.str ([120,32]++XP)) g:=fun g=>dH (by decide)
   have A2:∀g,aI .add .none (.str ([120,32]++XP)) (.str [32,105,110,66,79,88,13,10]) g=.ok (.str sx) g:=fun g=>by rw [hsx];exact dH (by decide)
   have A3:∀g,aI .add .none (.str [121,32]) (.str XP) g=.ok (.str ([121,32]++XP)) g:=fun g=>dH (by decide)
   have A4:∀g,aI .add .none (.str ([121,32]++XP)) (.str [32,110,111,110,101,13,10,122,32,67,72,69,67,75,13,10]) g=.ok (.str sy) g:=fun g=>by rw [hsy];exact dH (by decide)
   have ha:Alls pc im ps (jR Ik.flB) {acc:=A,inn:=true,only:=false,cnt:=2,vw:=some (gX A (bxF ts.length).id)} (sl1++eP ts.length++sl2++eP (ts.length+1)++sl3++eP (ts.length+1)++sl4++rwS++sl5) {acc:=A,inn:=true,only:=false,cnt:=3,vw:=some (gX A (bxF ts.length).id)}:=by
    rw [show jR Ik.flB= [aDk] from rfl,←aup ts.length rwS (by decide)]
    have s1:=aEC (pc:=pc) (im:=im) (ps:=ps) (st:={acc:=A,inn:=true,only:=false,cnt:=2,vw:=some (gX A (bxF ts.length).id)}) rfl ⟨by simp,by simp⟩ hC
    rw [show(Wn A.mails (bxF ts.length).id).length=ts.length from fA.wn.1,fA.clock] at s1
    have s2:=Alls.go s1 (.nil _)
    rw [List.append_nil] at s2
    exact s2
   obtain⟨h3,e3,w3⟩:=aht W2 (s:=sx) (by omega) (by rw [hsx];exact qJ) ha
   obtain⟨F3,J3,pl3,ib3,cb3,fb3,vm3,vl3,vv3,I3,W3,-,c3⟩:=w3
   have hb:Alls pc im ps (jR Ik.flD) {acc:=A,inn:=true,only:=false,cnt:=3,vw:=some (gX A (bxF ts.length).id)} aND {acc:=A,inn:=true,only:=false,cnt:=5,vw:=none}:=by
    rw [show jR Ik.flD= [aDj,ahP] from rfl]
    exact .go (aEB (st:={acc:=A,inn:=true,only:=false,cnt:=3,vw:=some (gX A (bxF ts.length).id)}) rfl ⟨by simp,by simp⟩ hC.small hC.top (asT fA)) (.go (aiu (st:={acc:=A,inn:=true,only:=false,cnt:=4,vw:=none}) rfl ⟨by simp,by simp⟩) (.nil _))
   obtain⟨h4,e4,w4⟩:=aht W3 (s:=sy) (by have:=c3.next;omega) (by rw [hsy];exact qf) hb
   obtain⟨b1,hb1⟩:∃b1,b1=sl1++eP ts.length:=⟨_,rfl⟩
   have lb1:b1.length≤360:=by rw [hb1,List.length_append];(try simp only [List.length_cons,List.length_nil]);omega
   have B1:∀g,aI .add .none (.str sl1) (.str (eP ts.length)) g=.ok (.str b1) g:=fun g=>by rw [hb1];exact dH (by(try simp only [List.length_cons,List.length_nil]);omega)
   obtain⟨b2,hb2⟩:∃b2,b2=b1++sl2:=⟨_,rfl⟩
   have lb2:b2.length≤420:=by rw [hb2,List.length_append];(try simp only [List.length_cons,List.length_nil]);omega
   have B2:∀g,aI .add .none (.str b1) (.str sl2) g=.ok (.str b2) g:=fun g=>by rw [hb2];exact dH (by(try simp only [List.length_cons,List.length_nil]);omega)
   obtain⟨b3,hb3⟩:∃b3,b3=b2++eP (ts.length+1):=⟨_,rfl⟩
   have lb3:b3.length≤480:=by rw [hb3,List.length_append];(try simp only [List.length_cons,List.length_nil]);omega
   have B3:∀g,aI .add .none (.str b2) (.str (eP (ts.length+1))) g=.ok (.str b3) g:=fun g=>by rw [hb3];exact dH (by(try simp only [List.length_cons,List.length_nil]);omega)
   obtain⟨b4,hb4⟩:∃b4,b4=b3++sl3:=⟨_,rfl⟩
   have lb4:b4.length≤540:=by rw [hb4,List.length_append];(try simp only [List.length_cons,List.length_nil]);omega
   have B4:∀g,aI .add .none (.str b3) (.str sl3) g=.ok (.str b4) g:=fun g=>by rw [hb4];exact dH (by(try simp only [List.length_cons,List.length_nil]);omega)
   obtain⟨b5,hb5⟩:∃b5,b5=b4++eP (ts.length+1):=⟨_,rfl⟩
   have lb5:b5.length≤600:=by rw [hb5,List.length_append];(try simp only [List.length_cons,List.length_nil]);omega
   have B5:∀g,aI .add .none (.str b4) (.str (eP (ts.length+1))) g=.ok (.str b5) g:=fun g=>by rw [hb5];exact dH (by(try simp only [List.length_cons,List.length_nil]);omega)
   obtain⟨b6,hb6⟩:∃b6,b6=b5++sl4:=⟨_,rfl⟩
   have lb6:b6.length≤660:=by rw [hb6,List.length_append];(try simp only [List.length_cons,List.length_nil]);omega
   have B6:∀g,aI .add .none (.str b5) (.str sl4) g=.ok (.str b6) g:=fun g=>by rw [hb6];exact dH (by(try simp only [List.length_cons,List.length_nil]);omega)
   obtain⟨b7,hb7⟩:∃b7,b7=b6++rwS:=⟨_,rfl⟩
   have lb7:b7.length≤720:=by rw [hb7,List.length_append];(try simp only [List.length_cons,List.length_nil]);omega
   have B7:∀g,aI .add .none (.str b6) (.str rwS) g=.ok (.str b7) g:=fun g=>by rw [hb7];exact dH (by(try simp only [List.length_cons,List.length_nil]);omega)
   obtain⟨b8,hb8⟩:∃b8,b8=b7++sl5:=⟨_,rfl⟩
   have lb8:b8.length≤780:=by rw [hb8,List.length_append];(try simp only [List.length_cons,List.length_nil]);omega
   have B8:∀g,aI .add .none (.str b7) (.str sl5) g=.ok (.str b8) g:=fun g=>by rw [hb8];exact dH (by(try simp only [List.length_cons,List.length_nil]);omega)
   have eW:sl1++eP ts.length++sl2++eP (ts.length+1)++sl3++eP (ts.length+1)++sl4++rwS++sl5=b8:=by rw [hb8,hb7,hb6,hb5,hb4,hb3,hb2,hb1]
   rw [eW] at e3
   simp (disch:=omega) only [vvB,Nat.reduceEqDiff,reduceCtorEq,↓reduceIte,nU,uO,uN,Ci,Ce,Cb,BZ,BX,zK,zJ,zI,zH,zG,e0,e1,fF,e2,rl,D1,D2,A1,A2,A3,A4,e3,e4,B1,B2,B3,B4,B5,B6,B7,B8,akR,decide_true]
   exact aU.ret (qT0) rfl
  |true=>
   obtain⟨sx,hsx⟩:∃sx,sx= [120,32]++XQ++ [32,105,110,66,79,88,13,10]:=⟨_,rfl⟩
   obtain⟨sy,hsy⟩:∃sy,sy= [121,32]++XQ++ [32,110,111,110,101,13,10,122,32,67,72,69,67,75,13,10]:=⟨_,rfl⟩
   have A1:∀g,aI .add .none (.str [120,32]) (.str XQ) g=.ok (.str ([120,32]++XQ)) g:=fun g=>dH (by decide)
   have A2:∀g,aI .add .none (.str ([120,32]++XQ)) (.str [32,105,110,66,79,88,13,10]) g=.ok (.str sx) g:=fun g=>by rw [hsx];exact dH (by decide)
   have A3:∀g,aI .add .none (.str [121,32]) (.str XQ) g=.ok (.str ([121,32]++XQ)) g:=fun g=>dH (by decide)
   have A4:∀g,aI .add .none (.str ([121,32]++XQ)) (.str [32,110,111,110,101,13,10,122,32,67,72,69,67,75,13,10]) g=.ok (.str sy) g:=fun g=>by rw [hsy];exact dH (by decide)
   have ha:Alls pc im ps (jR Ik.flC) {acc:=A,inn:=true,only:=false,cnt:=2,vw:=some (gX A (bxF ts.length).id)} (sl1++eP ts.length++sl2++eP (ts.length+1)++sl3++eP (ts.length+1)++sl4++roS++sl5) {acc:=A,inn:=true,only:=true,cnt:=3,vw:=some (gX A (bxF ts.length).id)}:=by
    rw [show jR Ik.flC= [aDm] from rfl,←aup ts.length roS (by decide)]
    have s1:=aEE (pc:=pc) (im:=im) (ps:=ps) (st:={acc:=A,inn:=true,only:=false,cnt:=2,vw:=some (gX A (bxF ts.length).id)}) rfl ⟨by simp,by simp⟩ hC
    rw [show(Wn A.mails (bxF ts.length).id).length=ts.length from fA.wn.1,fA.clock] at s1
    have s2:=Alls.go s1 (.nil _)
    rw [List.append_nil] at s2
    exact s2
   obtain⟨h3,e3,w3⟩:=aht W2 (s:=sx) (by omega) (by rw [hsx];exact qg) ha
   obtain⟨F3,J3,pl3,ib3,cb3,fb3,vm3,vl3,vv3,I3,W3,-,c3⟩:=w3
   have hb:Alls pc im ps (jR Ik.flE) {acc:=A,inn:=true,only:=true,cnt:=3,vw:=some (gX A (bxF ts.length).id)} aND {acc:=A,inn:=true,only:=false,cnt:=5,vw:=none}:=by
    rw [show jR Ik.flE= [aDl,ahP] from rfl]
    exact .go (aED (st:={acc:=A,inn:=true,only:=true,cnt:=3,vw:=some (gX A (bxF ts.length).id)}) rfl ⟨by simp,by simp⟩ hC.small hC.top (asT fA)) (.go (aiu (st:={acc:=A,inn:=true,only:=false,cnt:=4,vw:=none}) rfl ⟨by simp,by simp⟩) (.nil _))
   obtain⟨h4,e4,w4⟩:=aht W3 (s:=sy) (by have:=c3.next;omega) (by rw [hsy];exact pK) hb
   obtain⟨b1,hb1⟩:∃b1,b1=sl1++eP ts.length:=⟨_,rfl⟩
   have lb1:b1.length≤360:=by rw [hb1,List.length_append];(try simp only [List.length_cons,List.length_nil]);omega
   have B1:∀g,aI .add .none (.str sl1) (.str (eP ts.length)) g=.ok (.str b1) g:=fun g=>by rw [hb1];exact dH (by(try simp only [List.length_cons,List.length_nil]);omega)
   obtain⟨b2,hb2⟩:∃b2,b2=b1++sl2:=⟨_,rfl⟩
   have lb2:b2.length≤420:=by rw [hb2,List.length_append];(try simp only [List.length_cons,List.length_nil]);omega
   have B2:∀g,aI .add .none (.str b1) (.str sl2) g=.ok (.str b2) g:=fun g=>by rw [hb2];exact dH (by(try simp only [List.length_cons,List.length_nil]);omega)
   obtain⟨b3,hb3⟩:∃b3,b3=b2++eP (ts.length+1):=⟨_,rfl⟩
   have lb3:b3.length≤480:=by rw [hb3,List.length_append];(try simp only [List.length_cons,List.length_nil]);omega
   have B3:∀g,aI .add .none (.str b2) (.str (eP (ts.length+1))) g=.ok (.str b3) g:=fun g=>by rw [hb3];exact dH (by(try simp only [List.length_cons,List.length_nil]);omega)
   obtain⟨b4,hb4⟩:∃b4,b4=b3++sl3:=⟨_,rfl⟩
   have lb4:b4.length≤540:=by rw [hb4,List.length_append];(try simp only [List.length_cons,List.length_nil]);omega
   have B4:∀g,aI .add .none (.str b3) (.str sl3) g=.ok (.str b4) g:=fun g=>by rw [hb4];exact dH (by(try simp only [List.length_cons,List.length_nil]);omega)
   obtain⟨b5,hb5⟩:∃b5,b5=b4++eP (ts.length+1):=⟨_,rfl⟩
   have lb5:b5.length≤600:=by rw [hb5,List.length_append];(try simp only [List.length_cons,List.length_nil]);omega
   have B5:∀g,aI .add .none (.str b4) (.str (eP (ts.length+1))) g=.ok (.str b5) g:=fun g=>by rw [hb5];exact dH (by(try simp only [List.length_cons,List.length_nil]);omega)
   obtain⟨b6,hb6⟩:∃b6,b6=b5++sl4:=⟨_,rfl⟩
   have lb6:b6.length≤660:=by rw [hb6,List.length_append];(try simp only [List.length_cons,List.length_nil]);omega
   have B6:∀g,aI .add .none (.str b5) (.str sl4) g=.ok (.str b6) g:=fun g=>by rw [hb6];exact dH (by(try simp only [List.length_cons,List.length_nil]);omega)
   obtain⟨b7,hb7⟩:∃b7,b7=b6++roS:=⟨_,rfl⟩
   have lb7:b7.length≤720:=by rw [hb7,List.length_append];(try simp only [List.length_cons,List.length_nil]);omega
   have B7:∀g,aI .add .none (.str b6) (.str roS) g=.ok (.str b7) g:=fun g=>by rw [hb7];exact dH (by(try simp only [List.length_cons,List.length_nil]);omega)
   obtain⟨b8,hb8⟩:∃b8,b8=b7++sl5:=⟨_,rfl⟩
   have lb8:b8.length≤780:=by rw [hb8,List.length_append];(try simp only [List.length_cons,List.length_nil]);omega
   have B8:∀g,aI .add .none (.str b7) (.str sl5) g=.ok (.str b8) g:=fun g=>by rw [hb8];exact dH (by(try simp only [List.length_cons,List.length_nil]);omega)
   have eW:sl1++eP ts.length++sl2++eP (ts.length+1)++sl3++eP (ts.length+1)++sl4++roS++sl5=b8:=by rw [hb8,hb7,hb6,hb5,hb4,hb3,hb2,hb1]
   rw [eW] at e3
   simp (disch:=omega) only [vvB,Nat.reduceEqDiff,reduceCtorEq,↓reduceIte,nU,uO,uN,Ci,Ce,Cb,BZ,BX,Po,Kr,zK,zJ,zI,zH,zG,e0,e1,fF,e2,rl,D1,D2,A1,A2,A3,A4,e3,e4,B1,B2,B3,B4,B5,B6,B7,B8,akR,decide_true]
   exact aU.ret (qT0) rfl
end Go.Proofs.Im

noncomputable section
namespace Go.Vm
section
variable{H:Type}{enc:TypeId×Value→H}{base:Nat}{spare:Nat→Bool}{held:Bool}{P:Program}{w:World}
theorem aNs{e:TypeId}(he:P.underlying e=some .string):∀fuel cs x,DataW.trod enc P w base spare held fuel e cs=some x→cs.length=1→∃vs:List V,vs.length=1∧(∃t,vs= [.str t]∧∀b∈t,b<256)∧(∀N,bZ N vs cs)∧∀y∈cs,scalar y=true:=by
 intro fuel cs x hx _
 obtain⟨s,rfl,-,-⟩:=DataW.trod_string he hx
 have hb:∀b∈s.data.toList.map UInt8.toNat,b<256:=fun b hb=>by
  obtain⟨y,_,rfl⟩:=List.mem_map.1 hb
  exact y.toNat_lt
 refine⟨[.str (s.data.toList.map UInt8.toNat)],rfl,⟨_,rfl,hb⟩,fun N=>⟨_,[],?_,rfl,rfl⟩,fun y hy=>by rw [List.mem_singleton.1 hy];rfl⟩
 have:=Oh (M:=N) hb
 rw [aFx] at this
 exact this
end
end Go.Vm
namespace Go.Proofs.Im
open Go Go.Proofs Go.Vm Go.Ln Go.Im
open Go.ChangeShapes Go.WideShapes Go.ChangeAt Go.RowKit
set_option maxRecDepth 100000
theorem aAK:∀{els:List (List V)},(∀vs∈els,(∃t:List Nat,vs= [V.str t]∧∀b∈t,b<256)∧vs.length=1)→∃l:List (List Nat),els=l.map jH∧∀t∈l,∀b∈t,b<256
 | [],_=>⟨[],rfl,by simp⟩
 |vs::els,h=>by
  obtain⟨⟨t,rfl,ht⟩,-⟩:=h vs (by simp)
  obtain⟨l,e,hb⟩:=aAK fun v hv=>h v (List.mem_cons_of_mem _ hv)
  refine⟨t::l,by rw [e];rfl,fun u hu=>?_⟩
  rcases List.mem_cons.1 hu with rfl|hu
  ·exact ht
  ·exact hb u hu
theorem walkOfImapSelects{H:Type}{enc:TypeId×Value→H}{spare:Nat→Bool}{held:Bool}(W:Go.World){r:Reach}{b0 base:Nat}{v0 v1:Value}{d0 d1:DataW H}{p0 p1:List MemPlace}
  (hv0:Value.okWide Tryz.prog W r b0 tSS v0) (hd0:DataW.Trod enc Tryz.prog W base spare held tSS v0 d0 p0) (hv1:Value.okWide Tryz.prog W r b0 4 v1) (hd1:DataW.Trod enc Tryz.prog W base spare held 4 v1 d1 p1):
  Calls Tryz.prog 8 #[v0,v1] W fun e W'=>e=.returned (.bool true)∧Below W.heap.size W W':=by
 obtain⟨a,len,cap,rfl⟩:=okWide_slice Tryz.underlying26 hv0
 obtain⟨m,hm⟩:=hd0
 obtain⟨read,rfl,-,-⟩:=open_bool Tryz.underlying4 hv1 hd1
 obtain⟨c,v,M',h',els,h1,h2,h3,-,hels,-,h4⟩:=aER Tryz.underlying26 (n:=1) (by kernel_rfl) (by omega) (aNs Tryz.underlying9) hm (Seen.empty aN W)
 obtain rfl:Value.slice a len cap=c:=by simpa [Value.cells] using h1
 obtain⟨ts,rfl,h256⟩:=aAK hels
 have hT:∃h'',yD [v,.bool read] h'=.ok (.bool true) h'':=by
  rcases h4 with⟨rfl,rfl,he⟩|⟨rfl,rfl,he⟩|⟨cap,rfl,rfl,hpos,hcap⟩
  ·obtain rfl:ts= []:=by simpa using he
   exact Nc (Rws.aG (fun _=>True) _ _ _) h256 read (by decide)
  ·obtain rfl:ts= []:=by simpa using he
   exact Nc (Rws.emp (fun _=>True) _ _ _) h256 read (by decide)
  ·have k:=Kn.new (h0 aN) (.cells .ro (ts.map jH).flatten)
   have R:=Kn.rws (c:=jH) (sz:=1) (cp:=.kn cap) k (fun _=>rfl) (fun _ _ _ _ e=>by cases e;rw [List.length_map] at hcap;exact hcap)
   rw [List.length_map]
   exact Nc R h256 read (by rw [aZ];decide)
 obtain⟨h'',e⟩:=hT
 exact ay8 (cargs:= [_,_]) (args:= [_,_]) al8 Tryz.func8 (by kernel_rfl) (c:=codeOf Tryz.f8) (by kernel_rfl) h3 ⟨_,_,h2,⟨_,[],zk _ read,rfl,rfl⟩,rfl⟩ e
end Go.Proofs.Im
