/- Lemmas. No conditions. -/
import Derived.Test.YtpgppmioigacoaaGreatDoorFAY
import Derived.Test.YtpgppmioigacoaaGreatDoorFAX
import Derived.Test.YtpgppmioigacoaaGreatDoorFAG
set_option linter.all false
set_option maxRecDepth 100000
open Go.Vm.Pos renaming of→a!
open List renaming nil_append→b!,getElem?_eq_some_iff→c!,drop_eq_getElem_cons→d!,append_assoc→e!,mem_append→h!,length_map→i!,cons_append→j!,getElem?_eq_getElem→k!,all_eq_true→p!,append_nil→r!,replicate→t!
open Nat renaming le_refl→g!,zero_add→l!,blt_eq→n!,blt→o!,add_zero→v!,mul_one→x!
open Go.Vm.V renaming int→Y,ptr→X,bool→K,str→H
open Go.IntKind renaming i64→U
open Go.Vm.Ob renaming cells→O
open Go.Vm.Wr renaming rw→N
open Go.Vm.R renaming ok→D
noncomputable section
open Go Go.Vm Go.Proofs Go.Ln Go.Im Go.Proofs.Im Go.ChangeShapes Go.WideShapes Go.ChangeAt Go.RowKit
namespace Go.Vm
def aEY(b:F->Hp->Out)(n:Nat)(fr:F)(h:Hp):dG b (n+1) fr h=oC (b fr h) (dG b n):=by
 show(match b fr h with
  | .nor fr h=>dG b n fr h
  | .ret fr h=>.ret fr h
  | .ex i fr h=>.ex i fr h
  | .bad=>.bad)=_
 cases b fr h<;>rfl
def aSZ(b:F->Hp->Out)(fr:F)(h:Hp):dG b lf fr h=oC (b fr h) λfr h=>oC (b fr h) (dG b 9999999999999999998):=by
 have e:lf=9999999999999999998+1+1:=rfl;rw[e,aEY];congr 1
end Go.Vm
namespace Go.Ln
def WAt.aP{P:Pos->Prop}{h:Hp}:∀{ws:Wds} {cs:List V} {k:Nat} {w:Wd},WAt P h ws cs->ws.get? k=some w->w.kind≠3->cs[k*3]?=some (Y U w.kind)/\cs[k*3+1]?=some (H w.text)/\cs[k*3+2]?=some .aP
 | .nil,_,k,w,_,e,_=>by cases e
 | .cons _ _ _ _,_,0,w,⟨vk,b,cr,e1,o,p,x,r⟩,e,a=>by
  cases e;subst e1;rcases o.is with⟨_,rfl⟩|⟨i,rfl,_⟩
  ·exact⟨rfl,rfl,rfl⟩
  ·exact absurd (p i rfl).2 a
 | .cons _ _ _ l,_,k+1,w,⟨vk,b,cr,e1,o,p,x,r⟩,e,a=>by
  subst e1;have:=WAt.aP (k:=k) r e a;rw[show(k+1)*3=k*3+3 by omega];exact this
def WS.atom{P:Pos->Prop}{h:Hp}{v:V}{ws:Wds}(t:WS P h v ws){k:Nat}{w:Wd}(e:ws.get? k=some w)(a:w.kind≠3):
  ∃j q,(∀h',aX 3 v (Y U (k:Int)) h'=D (X j q) h')/\bH 3 (X j q) h=D (.agg (.cons (Y U w.kind) (.cons (H w.text) (.cons .aP .nil)))) h:=by
 obtain⟨cs,o,-,i,x⟩:=t;have l:=Wds.MP e;obtain⟨b,c,d⟩:=WAt.aP x e a;obtain⟨j,q,e1,-,-,e2⟩:=o.atN l;refine⟨j,q,e1,?_⟩;rw[e2 h rfl];obtain⟨l0,x0⟩:=c!.1 b;obtain⟨l1,u⟩:=c!.1 c;obtain⟨m,y⟩:=c!.1 d;have f:(cs.drop (k*3)).take 3= [Y U w.kind,H w.text,.aP]:=by
  rw[d! l0,d! l1,d! m,x0,u,y];rfl
 rw[f];rfl
end Go.Ln
namespace Go.Proofs.Im
section
variable{bb:Nat}{h h' g h0:Hp}{P F I J Z:Pos->Prop}{ps pl ib p ir pc im cp i:Pos}{cb:Cap}{fb only:Bool}{vm vl vv vw:V}{k n t:Nat}{st:Sn}{L:List V}{s:List Nat}{w:Wds}{ks:Int×Int×List (Int×Int×Int)}{x0:Wd}{r:List (Int×Int)}{x:Int×Int×Ml}
def aTc(s:List Nat):eH 9 [H []] 1 [(0,1,H s)]=some (O (N 9 true) (dN s),λp=>.slice p 0 1 (.kn 1)):=(rfl)
def atD(q:Rq bb h0 Z h pc im ps ir false w s st L vw P F J pl ib cb fb vm vl vv I)(hv:st.vw=some ks)(ho:st.only=false)(hw:w.len=2)(bu:w.get? 0=some x0)(an:x0.kind≠3)(bv:w.get? 1=some ⟨1,oh,.nil⟩)
  (aq:XB x0.text (zi false ks.2.2)=some r) (hA:st.acc.Small) (hk:ks.2.2.length<=1000) (ar:(Wn st.acc.mails ks.1).Pairwise λx y=>x.1<y.1) (bj:(Wn st.acc.mails ks.1).length<50)
  (ao:((fH st.acc.mails ks.1 0 ks.2.2).filter λx=>inM r (uQ false x))= [x]) (M:((fH st.acc.mails ks.1 0 ks.2.2).find? λy=>decide (y.1=x.1))=some x)
  (hx:x.1=(t:Int)+1) (ht:t<ks.2.2.length) (b0:t<98) (br:x.2.2.keys.length<=20) (bq:∀s∈x.2.2.keys,s.length<=100/\(∀c∈s,c<256)/\s≠ []) (bk:(fO x.2.2.keys).length<=5000/\∀c∈fO x.2.2.keys,c<256) (b6:s.length<=1000000):
  ∃h',TN [X pc 0,X ir 0] h=D (anV 0 [] false false true) h'/\DF bb h0 Z vw P h' pc im ps ir false w (s++(rU (t+1) (oh++ [32]++fO x.2.2.keys)++ [13,10])) {st with vw:=some (ks.1,ks.2.1,zh st.acc ks.1 ks.2.2 t)}:=by
 obtain⟨h1,bn,c1,k1⟩:=mkW h (O (N tA true) zAn);have q1:=q.nw c1;have aD:¬OfB ir 5 L h.next:=λo=>by have:=(o.from q.bd _).2;omega
 have aL:¬Ft F J pc im h.next:=λo=>by have:=q.wd.lt _ o;omega
 have lw:=λg=>q.aHr g;rw[hw]at lw;have lw:∀g,aZ 2 vw g=D (Y U 2) g:=lw;have R3:=q1.kr.ld q1.l3;obtain⟨j0,p0,i0,l0⟩:=WS.atom q1.ws bu an;have bw:∀h',aX 3 vw (Y U 0) h'=D (X j0 p0) h':=i0;obtain⟨vr,b,e2,r2,c2,-⟩:=q1.set (vk:=.aP) hv hA hk an aq;rw[ao]at r2;have q2:=q1.nw c2;have a4:=q2.kr.ld q2.l3;obtain⟨j1,p1,i1,l1⟩:=WS.atom q2.ws bv (by show(1:Int)≠3;decide);have bx:∀h',aX 3 vw (Y U 1) h'=D (X j1 p1) h':=i1;have bL:bH 3 (X j1 p1) b=D Ik.anz b:=l1;obtain⟨h3,ac⟩:∃h3,h3=b.new Ik.ant:=⟨_,rfl⟩
 have e3:TL [Ik.anz] b=D (.tuple (.cons (.slice b.next 0 1 (.un 3)) (.cons (K true) .nil))) h3:=by rw[ac];exact Ik.aHS b
 have c3:Nw b h3:=by rw[ac];exact Nw.new _ _
 have ay:Kn h3 b.next (O (N 213 false) (([()]:List Unit).map Ag).flatten):=by rw[ac];exact Kn.new _ _
 have a0:Rws (λj=>j=b.next) (flat Ag) 3 h3 (.slice b.next 0 1 (.un 3)) [()]:=Kn.rws (c:=Ag) (l:= [()]) (cp:=.un 3) (sz:=3) ay (λ_=>rfl) (λ_ _ _ _ e=>by cases e;exact rfl);have q3:=q2.nw c3;have R4:=q3.kr.ld q3.l4;have a5:=q3.kr.ld q3.l3;have C2:=q3.wd.con.ld (q:=2) (x:=K st.only) rfl;rw[ho]at C2;obtain⟨h4,e4,c4⟩:=aHO a0;have q4:=q3.nw c4;have ai:=c3.trans c4;obtain⟨rv,h5,e5,o5,c5⟩:=q4.fresh hv hA hk ((r2.rws dK).nw dK ai) (by simp) (λy hy=>by simp at hy;subst hy;exact⟨_,M⟩);have bl:pW (fH st.acc.mails ks.1 0 ks.2.2) [x]= [x]:=by
  unfold pW;simp only[List.filterMap_cons,List.filterMap_nil];rw[M]
 rw[bl]at o5;have R5:=o5.rws dK;have ag:∀g,aZ 2 rv g=D (Y U 1) g:=λg=>R5.len g;have q5:=q4.nw c5;obtain⟨i5,p5,cs,bz,bi,b4,-,-,-,bM⟩:=R5.elt (k:=0) (x:=x) rfl;have av:∀g,aX 10 rv (Y U 0) g=D (X i5 p5) g:=bz;have az:=bM h5 rfl;obtain⟨vk,vs,rfl,rk,-⟩:=bi;obtain⟨h6,bo,c6,k6⟩:=mkW h5 (O (N 200 true) (msC x vk vs));have S6:=mkT 10 zMs bo;have LI:∀g,aZ 2 (.slice b.next 0 1 (.un 3)) g=D (Y U 1) g:=λg=>rfl;have XI:∀g,aX 3 (.slice b.next 0 1 (.un 3)) (Y U 0) g=D (X b.next 0) g:=λg=>sN (sz:=3) (i:=b.next) (c:=.un 3) (m:=0) (n:=1) (by omega) g;have aj:=(c4.trans c5).trans c6;have a2:bH 3 (X b.next 0) h6=D aqi h6:=(ay.nw aj).ldN (n:=3) rfl;obtain⟨f,bp,c7,k7⟩:=mkW h6 (O (N 213 true) (Ag ()));have S7:aS 3 (X h6.next 0) aqi (h6.new (O (N 213 true) [H [],K false,.gV]))=D V.undef f:=by rw[bp];exact BK (V.iI (Ag ())) rfl rfl
 have F7:=(k7.bump 1).ld (q:=2) (x:=.func (.func 236) .nil .nil) rfl;have N7:=(k7.bump 1).ld (q:=0) (x:=H oh) rfl;have M7:=((k6.nw c7).bump 1).ldN (n:=10) rfl;obtain⟨h8,e8,c8⟩:=aGr (x:=x) (vs:=vs) (((rk.nw (aJ _) c6).nw (aJ _) c7).nw (aJ _) (Nw.bump 1 f)) br bq;have ak:Nw f h8:=(Nw.bump 1 f).trans c8;have N8:=(k7.nw ak).ld (q:=0) (x:=H oh) rfl;have cC:∀{k:Out},chk (λh=>aF (X h6.next 0) h) (H oh) k 1 [aK 1 f]=k:=qw rfl N7;have T1:∀g,aH .add .none (H oh) (H [32]) g=D (H (oh++ [32])) g:=λg=>dw (by simp);have T2:∀g,aH .add .none (H (oh++ [32])) (H (fO x.2.2.keys)) g=D (H (oh++ [32]++fO x.2.2.keys)) g:=λg=>dw (by simp;omega);obtain⟨tx,ae⟩:∃tx,tx=oh++ [32]++fO x.2.2.keys:=⟨_,rfl⟩
 have b7:tx.length<=6000:=by rw[ae];simp;omega
 have z:∀c∈tx,c<256:=by
  rw[ae];intro c hc;rcases h!.1 hc with q|q
  ·simp at q;omega
  ·exact bk.2 c q
 rw[<-ae]at T2⊢;obtain⟨B,ad⟩:∃B,B=h8.put f.next (some (O (N 9 true) (dN tx))):=⟨_,rfl⟩
 have ca:=c8.next;have b3:=sZ 1 f;have bc:Nw f B:=by rw[ad];exact ak.put (g! _) _
 have k9:Kn B f.next (O (N 9 true) (([tx]:List (List Nat)).map dN).flatten):=by rw[ad];exact⟨kJ _ _ _,by rw[jQ];omega⟩
 have r9:Rws (λj=>j=f.next) (flat dN) 1 B (.slice f.next 0 1 (.kn 1)) [tx]:=Kn.rws (c:=dN) (l:= [tx]) (cp:=.kn 1) (sz:=1) k9 (λ_=>rfl) (λ_ _ _ _ e=>by cases e;exact g! _);obtain⟨lv,aa,S,bN,a8,b8⟩:=(dF.nil B.next.nat (λ_=>False) (flat dN) 9 1 B).aTU (bt:=16) r9 (g! _) (by simp);have S:bZ 9 1 16 .aP (.slice f.next 0 1 (.kn 1)) B=D lv aa:=S;have be:Nw B aa:=a8.mono λj _ e=>by cases e
 have a:=(c7.trans bc).trans be;have a3:=(k6.nw a).ldN (n:=10) rfl;have ro:Rws (λj=>B.next.nat<=j.nat) (flat dN) 1 aa lv [tx]:=bN.rows (aJ _) (λ_ _ q=>q.elim) λj hb _=>hb;obtain⟨E,bf,u⟩:=aEv (n:=t+1) (x:=x) (vk:=vk) (vs:=vs) (by rw[hx];omega) (by omega) ro ⟨by omega,z⟩;have bO:=((q5.nw c6).nw a).nw u;have bm:(rU (t+1) tx).length<=7000/\∀c∈rU (t+1) tx,c<256:=by
  have hd:=kQ (n:=t+1) (by omega);unfold rU;refine⟨by simp;omega,λc hc=>?_⟩;simp only[h!]at hc;rcases hc with(((q|q)|q)|q)|q
  ·simp at q;omega
  ·exact hd.2.1 c q
  ·simp at q;omega
  ·exact z c q
  ·simp at q;omega
 have am:dH [32] [rU (t+1) tx]=rU (t+1) tx:=by simp[dH]
 obtain⟨rs,al,a1,W,aM,C⟩:=bO.say (el:=9) [rU (t+1) tx] (n:=1) rfl (by omega) (by simp[fP];omega) (λt' au=>by simp at au;subst au;exact bm.2) (.inl (g! _)) (by rw[am];omega);rw[am]at aM;have bs:=aDV 9 (rU (t+1) tx) E;have W:uM [X ir 0,.slice E.next 0 1 (.kn 1)] (E.new (O (N 9 true) (dN (rU (t+1) tx))))=D rs al:=W;have bX:∀j:Pos,h.next.nat<=j.nat->j.nat<E.next.nat->¬OfB ir 5 L j:=λj hj _ o=>by have:=(o.from q.bd _).2;omega
 have n1:=c1.next;have n2:=c2.next;have n3:=c3.next;have n4:=c4.next;have n5:=c5.next;have n6:=c6.next;have b1:=a.next;have b9:=u.next;have b5:=k6.2;have aR:Rws (λ_=>True) (flat Ag) 3 al (.slice b.next 0 1 (.un 3)) [()]:=((a0.nw (aJ _) aj).nw (aJ _) (a.trans u)).ch (aJ _) C.ch λj hj e=>⟨trivial,λo=>by rw[e]at o;have:=(o.from q.bd _).2;omega⟩
 obtain⟨b2,bg,Q⟩:=aQH aR;have G:=aM.nw Q;have C1:=G.wd.con.ld (q:=1) (x:=vv) rfl;have R1:=G.kr.ld G.l1;have ap:¬OfB ir 5 L h5.next:=λo=>by have:=(o.from q.bd _).2;omega
 have bB:=((k6.nw (a.trans u)).ch C.ch ap).nw Q;have ah:=bB.ld (q:=0) (x:=iV x.1) rfl;rw[hx]at ah;obtain⟨cc,ab,bh,af,a9⟩:=G.told hv hA hk ar bj ht;have bS:∀g,aZ 2 rv g=D (Y U 1) g:=ag;have a6:=af.kr.ld af.l4;have aw:=(((k1.nw (c2.trans ai)).nw (c5.trans c6)).nw (a.trans u)).ch C.ch aD;have nJ:¬J h.next:=λe=>aL (.inr (.inl e));have ax:=(aw.nw Q).ch a9 nJ;obtain⟨d,v⟩:∃d,d=ab.put h.next (some (O (N tA true) (anL 0 [] false false true))):=⟨_,rfl⟩
 have a7:aS 5 (X h.next 0) (anV 0 [] false false true) ab=D V.undef d:=by rw[v];exact ax.stN rfl rfl
 have bE:Kn d h.next (O (N tA true) (anL 0 [] false false true)):=by rw[v];exact ax.put _
 have ba:Ch (λj=>j=h.next) ab d:=by rw[v];exact Ch.put _ _ rfl
 have aE:¬OfB ir 5 a1 h.next:=λo=>(C.sub _ o).elim aD λl=>by omega
 have bR:=af.ah0 ba aE aL q.chz.next;have bA:=λh=>aQT true h;refine⟨d,?_,bR.mk'⟩;rw[atU];simp(disch:=omega)only[vvB,seval,v!,aph,aeR,aeQ,aSZ,aCB,ag0,agZ,agY,agX,agW,aeF,aeE,aeD,aeC,aeB,aeA,aez,aey,aex,aew,aev,aeu,aes,aer,aep,aeo,
  oV,<-bn,R3,lw,bw,l0,e2,a4,bx,bL,e3,a5,R4,C2,e4,e5,ag,av,az,S6,LI,XI,a2,S7,F7,M7,aDQ,e8,N8,cC,T1,T2,aTc,<-ad,S,a3,bf,bs,W,bg,C1,R1,ah,bh,a6,bA,a7,Int.reduceAdd,Int.reduceLT,Int.reduceEq,decide_true,decide_false,Int.reduceGT]
 simp only[bV,bQ,vvB,seval,Ap,bE.ldN (n:=5) rfl,bT]
end
end Go.Proofs.Im
namespace Go.Im
abbrev awe:List Nat:= [70,69,84,67,72]
def aDw(k:Nat):Ln.Got:=⟨1,.cons 1 [121] .nil (.cons 1 awe .nil (.cons 1 [48+k] .nil (.cons 1 oh .nil .nil)))⟩
def aLe{k:Nat}(a:1<=k/\k<10):Fed (Ik.awf k) [aDw k]:=
 Fed.mk (l:= [Ik.aIr k]) (by unfold Ik.awf;simp) (by simp) (Ik.aS2 k a.1 a.2)
end Go.Im
namespace Go.Proofs.Im
section
variable{ps pc im:Pos}{s:Bool}{f n j:Nat}{st:Sn}{K:List (List Nat)}{B:List Bx}{E:List En}{b:List Bool}{t:Int}
def aQw(t:List Nat)(a:t.length<=10):(okT t []).length<=100:=by simp[okT,lineS,dH];omega
def aKv(h:FlOk j (keysOf b) n B E)(hb:b.length=5)(hn:n<20)(i:f<5)(q:st.only=false)(p:0<=st.cnt/\st.cnt<1000)(o:st.acc=flA j (keysOf b) n B E)(r:st.vw=some (vwS j t)):
  ∃a c d,FlOk j (keysOf (b.set f s)) a c d/\a<=n+1/\oU pc im ps (av6 s f (j+1)) st (okT [120] []) true {st with cnt:=st.cnt+1,acc:=flA j (keysOf (b.set f s)) a c d,vw:=some (vwS j ((j:Int)+2+a))}:=by
 obtain⟨a,c,d,ok,g,W⟩:=aIp (s:=s) h hb hn i t;rw[<-o]at W;have hj:=h.hj;refine⟨a,c,d,ok,g,?_⟩;have m:=az3 (K:=keysOf (b.set f s)) (n:=a) (B:=c) (E:=d) (j:=j) t
 have e:(((vwS j t).1,(vwS j t).2.1,tells (flA j (keysOf (b.set f s)) a c d) (vwS j t).1 (vwS j t).2.2 [((j:Int)+1,(j:Int)+1,gS j (keysOf (b.set f s)) ((j:Int)+2+a) j)]):Int×Int×List (Int×Int×Int))=vwS j ((j:Int)+2+a):=by rw[m];rfl
 have l:=aHF (pc:=pc) (im:=im) (ps:=ps) i (k:=j+1) (by omega) r (by unfold vwS;simp) q p W (by rw[e];exact ok.aqB _) (by rw[e];exact aAg);rw[e]at l;exact l
def aKw(h:FlOk j K n B E)(ho:st.only=false)(C:0<=st.cnt/\st.cnt<1000)(l:st.acc=flA j K n B E)(z:st.vw=some (vwS j ((j:Int)+2+n)))(p:(fO K).length<=5000/\∀c∈fO K,c<256):
  oU pc im ps (aDw (j+1)) st (rU (j+1) (oh++ [32]++fO K)++ [13,10]++okT [121] []) true {st with cnt:=st.cnt+1}:=by
 have hj:=h.hj;have hS:=az7 (j:=j) (K:=K) (n:=n) (B:=B) (E:=E) ((j:Int)+2+n);have hU:=h.aqB ((j:Int)+2+n);have W:=(aAg (j:=j) (K:=K) (n:=n) (B:=B) (E:=E)).upd;have Q:({st with cnt:=st.cnt+1}:Sn)={st with cnt:=st.cnt+1,vw:=some (vwS j ((j:Int)+2+n))}:=by rw[<-z]
 have m:(gS j K ((j:Int)+2+n) j).keys=K:=by rw[TT,if_pos rfl]
 have w:XB [48+(j+1)] (zi false (vwS j ((j:Int)+2+n)).2.2)=some [(((j+1:Nat):Int),((j+1:Nat):Int))]:=by
  have:zi false (vwS j ((j:Int)+2+n)).2.2=((j+1:Nat):Int):=by unfold zi vwS;simp
  rw[this];exact az8 (by omega)
 have o:zh (flA j K n B E) (vwS j ((j:Int)+2+n)).1 (vwS j ((j:Int)+2+n)).2.2 j=(vwS j ((j:Int)+2+n)).2.2:=by
  have:=az3 (K:=K) (n:=n) (B:=B) (E:=E) (j:=j) ((j:Int)+2+n);have e:((j:Int)+1 - 1).toNat=j:=by omega
  have e2:tells (flA j K n B E) (vwS j ((j:Int)+2+n)).1 (vwS j ((j:Int)+2+n)).2.2 [((j:Int)+1,(j:Int)+1,gS j K ((j:Int)+2+n) j)]=zh (flA j K n B E) (vwS j ((j:Int)+2+n)).1 (vwS j ((j:Int)+2+n)).2.2 ((j:Int)+1 - 1).toNat:=rfl;rw[e2,e]at this;exact this
 have M:(rU (j+1) (oh++ [32]++fO K)++ [13,10]).length<=6000/\∀c∈rU (j+1) (oh++ [32]++fO K)++ [13,10],c<256:=by
  have hd:=kQ (n:=j+1) (by omega);unfold rU;refine⟨by simp;omega,λc C=>?_⟩;simp only[h!]at C;rcases C with((((q|q)|q)|q)|q)|q
  ·simp at q;omega
  ·exact hd.2.1 c q
  ·simp at q;omega
  ·rcases q with(q|q)|q
   ·simp at q;omega
   ·simp at q;omega
   ·exact p.2 c q
  ·simp at q;omega
  ·simp at q;omega
 have v:Jj pc im ps ((aDw (j+1)).words.drop 2) (foldM awe) {st with cnt:=st.cnt+1} (anL 0 [] false false true) ([]++(rU (j+1) (oh++ [32]++fO K)++ [13,10])) {st with cnt:=st.cnt+1}:=by
  have S:({st with cnt:=st.cnt+1}:Sn).vw≠none:=by rw[show({st with cnt:=st.cnt+1}:Sn).vw=st.vw from rfl,z];simp
  exact Jj.of (n:=3) (f:=72) (u:=true) (by decide) rfl (.inr (.inr (.inr ⟨rfl,S⟩))) (λbb ir vw P h0 Z h' L F J pl ib cb fb vm vl vv I q=>by
    have G:=find_range (f:=λi:Nat=>((i:Int)+1,(i:Int)+1,gS j K ((j:Int)+2+n) i)) (key:=λy:Int×Int×Ml=>y.1) (λ_=>rfl) (show j<j+1 by omega);obtain⟨h2,e,r⟩:=atD (ks:=vwS j ((j:Int)+2+n)) (x0:=⟨1,[48+(j+1)],.nil⟩) (x:=((j:Int)+1,(j:Int)+1,gS j K ((j:Int)+2+n) j)) (t:=j) (r:= [(((j+1:Nat):Int),((j+1:Nat):Int))]) q z ho rfl rfl (by show(1:Int)≠3;decide) rfl w
     (by rw[show({st with cnt:=st.cnt+1}:Sn).acc=st.acc from rfl,l];exact h.small) (by unfold vwS;simp;omega) (by rw[show({st with cnt:=st.cnt+1}:Sn).acc=st.acc from rfl,l];exact auT) (by rw[show({st with cnt:=st.cnt+1}:Sn).acc=st.acc from rfl,l];exact hU.few2)
     (by rw[show({st with cnt:=st.cnt+1}:Sn).acc=st.acc from rfl,l];exact aAy _) (by rw[show({st with cnt:=st.cnt+1}:Sn).acc=st.acc from rfl,l,ank];exact G.2) rfl (by unfold vwS;simp) (by omega) (by show(gS j K _ j).keys.length<=20;rw[m];have:=h.few;omega) (by show ∀s∈(gS j K _ j).keys,_;rw[m];exact h.good) (by show(fO (gS j K _ j).keys).length<=5000/\_;rw[m];exact p) (by simp)
    rw[show({st with cnt:=st.cnt+1}:Sn).acc=st.acc from rfl,l,o]at r;rw[show(((j:Int)+1,(j:Int)+1,gS j K ((j:Int)+2+n) j):Int×Int×Ml).2.2.keys=K from m]at r;have:({st with cnt:=st.cnt+1,vw:=some ((vwS j ((j:Int)+2+n)).1,(vwS j ((j:Int)+2+n)).2.1,(vwS j ((j:Int)+2+n)).2.2)}:Sn)={st with cnt:=st.cnt+1}:=by rw[Q]
    rw[<-this];rw[show({st with cnt:=st.cnt+1,vw:=some ((vwS j ((j:Int)+2+n)).1,(vwS j ((j:Int)+2+n)).2.1,(vwS j ((j:Int)+2+n)).2.2)}:Sn).acc=flA j K n B E from l] at*;exact⟨h2,e,r⟩) rfl
 have d:({st with cnt:=st.cnt+1}:Sn).vw=some (vwS j ((j:Int)+2+n)):=z;have a:({st with cnt:=st.cnt+1}:Sn).acc=flA j K n B E:=l;have e1:oW 0 [121] [] ([]++(rU (j+1) (oh++ [32]++fO K)++ [13,10])) false ({st with cnt:=st.cnt+1}:Sn)=rU (j+1) (oh++ [32]++fO K)++ [13,10]++okT [121] []:=by
  unfold oW;rw[if_neg (by decide),if_neg (by simp),d,a,W.1,b!,r!]
 have e2:sW 0 false ({st with cnt:=st.cnt+1}:Sn)={st with cnt:=st.cnt+1}:=by
  unfold sW;rw[if_neg (by simp)];have:FD st.acc st.vw=st.vw:=by rw[l,z,W.2]
  show({st with cnt:=st.cnt+1,vw:=FD st.acc st.vw}:Sn)=_;rw[this]
 have aa:=aQw [121] (by simp);have sp:=oU.awv (g:=aDw (j+1)) (x:=⟨1,[121],.nil⟩) (y:=⟨1,awe,.nil⟩) (kk:=0) (tx:= []) (last:=false) (bare:=false) (part:=true) rfl rfl rfl rfl rfl ⟨by decide,by decide⟩ ⟨by decide,by decide⟩ ⟨C.1,by omega⟩ v (.inl rfl) ⟨by simp,by simp⟩ ⟨by rw[b!];omega,by rw[b!];exact M.2⟩
  (λ_ _ k e=>by rw[d]at e;cases e;rw[a];exact hU) (by rw[e1,List.length_append];omega) (λ_ _ _ k e=>by rw[d]at e;cases e;rw[a];exact hS)
 rw[e1,e2]at sp;exact sp
end
end Go.Proofs.Im
namespace Go.Im
section
variable{n j:Nat}{K:List (List Nat)}{B:List Bx}{E:List En}{now:List (Int×Ml)}
def amK(now:List (Int×Ml)):∀(l r:List K3) (i:Nat),kW now i (l++r)=kW now i l++kW now (i+l.length) r
 | [],r,i=>by simp[kW]
 |x::l,r,i=>by
  show agK now i x++kW now (i+1) (l++r)=agK now i x++kW now (i+1) l++_;rw[amK now l r (i+1),e!,show i+1+l.length=i+(x::l).length by simp;omega]
def aiO:∀(l:List K3) (i:Nat),(∀x∈l,∀i,agK now i x= [])->kW now i l= []
 | [],_,_=>rfl
 |x::l,i,h=>by
  show agK now i x++kW now (i+1) l= [];rw[h x (by simp) i,aiO l (i+1) λy a=>h y (by simp[a])];rfl
def aQY{i m:Nat}(hi:i<j+1)(t:Int):agK (Wn (flA j K n B E).mails 1) m ((i:Int)+1,(i:Int)+1,t)=if(gS j K ((j:Int)+2+n) i).mod>t then FQ (m+1) (aIs ((i:Int)+1) ((i:Int)+1,gS j K ((j:Int)+2+n) i)) else []:=by
 unfold agK;rw[show WN (Wn (flA j K n B E).mails 1) ((i:Int)+1,(i:Int)+1,t)=some ((i:Int)+1,gS j K ((j:Int)+2+n) i) from awc hi]
def SV(k:Nat)(tx:List Nat)(c:Nat):List Nat:= [42,32]++dZ k++ [32,70,69,84,67,72,32,40,85,73,68,32]++dZ k++ [32,70,76,65,71,83,32]++tx++ [32,77,79,68,83,69,81,32,40]++dZ c++ [41,41,13,10]
def aSC(j n:Nat)(K:List (List Nat))(B:List Bx)(E:List En):sH (flA j K n B E) (some (vwS j ((j:Int)+2)))=if n=0 then [] else SV (j+1) (fO K) (j+2+n):=by
 show kW (Wn (flA j K n B E).mails 1) 0 ((List.range (j+1)).map λi:Nat=>((i:Int)+1,(i:Int)+1,if i=j then(j:Int)+2 else(i:Int)+2))=_;rw[List.range_succ,List.map_append,amK,aiO,b!]
 ·rw[List.map_cons,List.map_nil,i!,List.length_range];show agK _ (0+j) _++ []=_;rw[r!,aQY (by omega),if_pos rfl,Y9,if_pos rfl];by_cases hn:n=0
  ·rw[if_pos hn,if_neg (by omega)]
  ·rw[if_neg hn,if_pos (by omega)];have o:((j:Int)+1).toNat=j+1:=by omega
   have e:((j:Int)+2+n).toNat=j+2+n:=by omega
   unfold FQ aIs SV;simp only[Y9,TT,if_pos,o,e,l!,dH,e!,j!,b!]
 ·intro x f i;obtain⟨a,d,rfl⟩:=List.mem_map.1 f;have d:=List.mem_range.1 d;have c:¬a=j:=by omega
  rw[aQY (by omega),Y9,if_neg c,if_neg c,if_neg (by omega)]
end
end Go.Im
namespace Go.Proofs.Im
section
variable{h h' o:Hp}{ps pc im pd qd:Pos}{b s2 st u:Sn}{S F J G I Q:Pos->Prop}{pl ib:Pos}{cb:Cap}{fb:Bool}{vm vl vv ww:V}{A:Acc}
structure Side (h:Hp) (pd qd:Pos) (st:Sn) (G:Pos->Prop) (ww:V):Prop where
 con:Kn h pd (O (N tCn true) [.bool st.inn,ww,.bool st.only,iV st.cnt,.map qd])
 map:Kn h qd (.map (gX pd))
 view:VwO h G ww st.vw
 ne:pd≠qd
 gn:∀j,G j->j≠pd/\j≠qd
abbrev Gt(G:Pos->Prop)(pd qd:Pos):Pos->Prop:=λj=>G j\/j=pd\/j=qd
def Side.ch(x:Side h pd qd st G ww)(c:Ch S h h')(a:∀j,Gt G pd qd j->¬S j):Side h' pd qd st G ww where
 con:=x.con.ch c (a _ (.inr (.inl rfl)))
 map:=x.map.ch c (a _ (.inr (.inr rfl)))
 view:=x.view.ch c λj f=>a j (.inl f)
 ne:=x.ne
 gn:=x.gn
def Side.lt(x:Side h pd qd st G ww):∀j,Gt G pd qd j->j.nat<h.next.nat:=λj q=>by
 rcases q with q|rfl|rfl
 ·exact x.view.lt j q
 ·exact x.con.2
 ·exact x.map.2
def Duo(Q:Pos->Prop)(h:Hp)(pc im pd qd ps:Pos)(b s2:Sn):Prop:=
 ∃F J pl ib cb fb vm vl vv I G ww,World h pc im ps b F J pl ib cb fb vm vl vv I/\Side h pd qd s2 G ww/\(∀j,Ft F J pc im j->¬Gt G pd qd j)/\∀j,Ft F J pc im j\/Gt G pd qd j->Q j
def Duo.swap(x:Duo Q h pc im pd qd ps b s2):Duo Q h pd qd pc im ps {s2 with acc:=b.acc} b:=by
 obtain⟨F,J,pl,ib,cb,fb,vm,vl,vv,I,G,ww,w,s,d,hb⟩:=x;refine⟨F,G,pl,ib,cb,fb,vm,vl,ww,I,J,vv,⟨w.acc,s.con,s.map,s.view,s.ne,λj f=>?_,s.gn⟩,⟨w.con,w.map,w.view,w.ne,w.jn⟩,λj f g=>?_,λj f=>?_⟩
 ·exact⟨λg=>d j (.inl f) (.inl g),λe=>d j (.inl f) (.inr (.inl e)),λe=>d j (.inl f) (.inr (.inr e))⟩
 ·rcases f with f|f
  ·have:=w.fj j f;rcases g with g|g|g
   ·exact this.1 g
   ·exact this.2.1 g
   ·exact this.2.2 g
  ·exact d j (.inr g) f
 ·rcases f with(f|f)|f
  ·exact hb j (.inl (.inl f))
  ·exact hb j (.inr f)
  ·exact hb j (.inl (.inr f))
def Duo.run{s t:List Nat}{gs:List Ln.Got}(x:Duo Q h pc im pd qd ps b s2)(hG:Ik.aI<=h.next.nat)(hb:∀j:Pos,h.next.nat<=j.nat->Q j)(L:Fed s gs)(M:Alls pc im ps gs b t u):
  ∃h',yC [X pc 0,X ps 0,H s] h=D (H t) h'/\Duo Q h' pc im pd qd ps u s2/\Ch Q h h':=by
 obtain⟨F,J,pl,ib,cb,fb,vm,vl,vv,I,G,ww,w,s,d,hbb⟩:=x;obtain⟨h',e,y,C,m,k,a,i,q,p,r,z,w',v,c⟩:=aHo w hG L M;refine⟨h',e,⟨y,C,m,k,a,i,q,p,r,z,G,ww,w',s.ch c λj g f=>d j f g,λj f g=>?_,λj f=>?_⟩,c.mono λj _ f=>hbb j (.inl f)⟩
 ·rcases v j f with f|l
  ·exact d j f g
  ·have:=s.lt j g;omega
 ·rcases f with f|g
  ·rcases v j f with f|l
   ·exact hbb j (.inl f)
   ·exact hb j l
  ·exact hbb j (.inr g)
def Duo.nw{Q':Pos->Prop}(x:Duo Q h pc im pd qd ps b s2)(c:Nw h h')(a:∀j:Pos,j.nat<h.next.nat->Q j->Q' j):Duo Q' h' pc im pd qd ps b s2:=by
 obtain⟨F,J,pl,ib,cb,fb,vm,vl,vv,I,G,ww,w,s,d,hbb⟩:=x;exact⟨F,J,pl,ib,cb,fb,vm,vl,vv,I,G,ww,w.ch c λ_ _ e=>e,s.ch c λ_ _ e=>e,d,λj f=>a j (f.elim (w.lt j) (s.lt j)) (hbb j f)⟩
def Duo.put{p:Pos}(x:Duo Q h pc im pd qd ps b s2)(c:Ch (λj=>j=p) h h')(a:∀j:Pos,Q j->j≠p):Duo Q h' pc im pd qd ps b s2:=by
 obtain⟨F,J,pl,ib,cb,fb,vm,vl,vv,I,G,ww,w,s,d,hbb⟩:=x;exact⟨F,J,pl,ib,cb,fb,vm,vl,vv,I,G,ww,w.ch c λj f=>a j (hbb j (.inl f)),s.ch c λj f=>a j (hbb j (.inr f)),d,hbb⟩
def Duo.mk{k:Nat}{bx:Bx}(a:dL h F ps A pl ib cb fb vm vl I)(C:CanBox A k bx)(hG:Ik.aI<=h.next.nat)(L:∀j,F j->Q j)(hb:∀j:Pos,h.next.nat<=j.nat->Q j):
  ∃pc im pd qd o i,NG [X ps 0] h=D (X pc 0) o/\NG [X ps 0] o=D (X pd 0) i/\
   Duo Q i pc im pd qd ps {acc:=A,inn:=true,only:=false,cnt:=2,vw:=some (fC A bx.id)} {acc:=A,inn:=true,only:=false,cnt:=2,vw:=some (fC A bx.id)}/\Ch Q h i:=by
 obtain⟨pc,im,o,e1,⟨x,p,ae,ad,Z,aa,ag,af,m,I1,e,f1,y⟩,ab⟩:=aGz a C hG;have n1:=y.next;obtain⟨pd,qd,i,e2,⟨M,W,pl2,s,q,r,v,t,w,P,w2,f2,z⟩,ac⟩:=aGz e.acc C (by omega);have b:Side o pc im {acc:=A,inn:=true,only:=false,cnt:=2,vw:=some (fC A bx.id)} p m:=⟨e.con,e.map,e.view,e.ne,e.jn⟩
 have hd:∀j,Gt p pc im j->¬x j:=λj g f=>by
  have:=e.fj j f;rcases g with g|g|g
  ·exact this.1 g
  ·exact this.2.1 g
  ·exact this.2.2 g
 have s2:=b.ch z hd;have c:∀j,Ft x p pc im j->Q j:=λj f=>(f1 j f).elim (L j) (hb j);have d:Duo Q i pd qd pc im ps {acc:=A,inn:=true,only:=false,cnt:=2,vw:=some (fC A bx.id)} {acc:=A,inn:=true,only:=false,cnt:=2,vw:=some (fC A bx.id)}:=
  ⟨M,W,pl2,s,q,r,v,t,w,P,p,m,w2,s2,λj f g=>by
   rcases f2 j f with f|l
   ·exact hd j g f
   ·have:=b.lt j g;omega,λj f=>by
   rcases f with f|g
   ·rcases f2 j f with f|l
    ·exact c j (.inl f)
    ·exact hb j (by omega)
   ·exact c j (.inr g)⟩
 exact⟨pc,im,pd,qd,o,i,e1,e2,d.swap,(y.mono λj _ f=>L j f).trans z λj _ f=>c j (.inl f)⟩
end
end Go.Proofs.Im
namespace Go.Vm
def aAp{n sz:Nat}{p:Pos}{o:Nat}{k:IntKind}{c:Nat}{h:Hp}(b:c<n):WJ n sz (X p o) (Y k (c:Int)) h=D (X p (o+c*sz)) h:=by
 show(match o! c n with|true=>fK (o+c*sz) λq=>R.ok (X p q) h|false=>.bad)=_;rw[show o! c n=true by rw[n!];exact b];simp only[dM]
end Go.Vm
namespace Go.Im
abbrev u8C(a:Nat):List V:= [Y .u8 (a:Int)]
def iP(b:List Bool):Nat->List Nat
 |0=> []
 |m+1=>if b.getD m false=true then(if iP b m≠ [] then iP b m++ [32] else iP b m)++Ik.sQ m else iP b m
def ae9(b:List Bool):∀m,(iP b m).length<=10*m
 |0=>by simp[iP]
 |m+1=>by
  have c:=ae9 b m;have d:=WL m;unfold iP;split
  ·split
   ·simp;omega
   ·simp;omega
  ·omega
def aHt:((bits 5).all λb=>decide (fO (keysOf b)= [40]++iP b 5++ [41])&&decide (iP b 5= []↔keysOf b= [])&&(iP b 5).all λc=>decide (c<256))=true:=kR
def aKr{b:List Bool}(hb:b.length=5):fO (keysOf b)= [40]++iP b 5++ [41]/\(iP b 5= []↔keysOf b= [])/\∀c∈iP b 5,c<256:=by
 have h:=p!.1 aHt b (by rw[<-hb];exact alq b);simp only[Bool.and_eq_true,p!,decide_eq_true_eq]at h;exact⟨h.1.1,h.1.2,h.2⟩
end Go.Im
namespace Go.Proofs.Im
section
variable{h h' g u:Hp}{P F I:Pos->Prop}{ps pl ib pc im:Pos}{v:V}{l:List Nat}{n k a:Nat}
abbrev abv(o:Out):Prop:=aV Tryz.prog [.tmp 4] (λr _=>r=K true) o
def abv.ret{fr:Go.Vm.F}(b:fr.get (a! 4)=some (K true)):abv (.ret fr h):=aV.ret (r:=K true) (qT1 b) rfl
abbrev stF(j:Nat)(b:List Bool)(m:Nat)(B:List Bx)(E:List En)(cnt t:Int):Sn:={acc:=flA j (keysOf b) m B E,inn:=true,only:=false,cnt:=cnt,vw:=some (vwS j t)}
def VZ(R:Rws P (flat u8C) 1 u v l)(hl:∀a∈l,a<256)(hn:n<256)(hG:Ik.aI<=u.next.nat):∃h',Ci [Y .u8 (n:Int),v] u=D (K true) h':=by
 have rl:=λh=>R.len h;rw[aiK]
 suffices T:abv (BV (T.set (some v) (a! 1) (T.set (some (Y .u8 (n:Int))) (a! 0) T.nil)) u) by
  obtain⟨r,h',e,rfl⟩:=T;exact⟨h',e⟩
 by_cases bO:20<l.length
 ·have ao:((l.length:Int)>20)=True:=eq_true (by omega);simp(disch:=omega)only[vvB,seval,BV,af7,FY,VG,rl,ao,decide_true,abn];exact abv.ret (qK0)
 have ao:((l.length:Int)>20)=False:=eq_false (by omega);obtain⟨j,hj⟩:∃j,j=n % 9:=⟨_,rfl⟩
 have bm:j<=8:=by omega
 have ek:(1:Int)+(((n:Int)).tmod 9)=((j+1:Nat):Int):=by
  show(1:Int)+((n % 9:Nat):Int)=_;omega
 have bd:=aET hn u;obtain⟨h1,a5,c1,-⟩:=mkW u (O (N 9 true) (times (j+1) [H []]));have B1:xE 9 16 [H []] (Y U ((j+1:Nat):Int)) (Y U ((j+1:Nat):Int)) u=D (.slice u.next 0 (j+1) (.kn (j+1))) h1:=by rw[a5];exact avq (by omega)
 have w:Kn h1 u.next (O (N 9 true) ((t! (j+1) ([]:List Nat)).map dN).flatten):=by
  have:((t! (j+1) ([]:List Nat)).map dN).flatten=times (j+1) [H []]:=by rw[arN];simp[dN]
  rw[this,a5];exact Kn.new _ _
 have r1:=Kn.rws (c:=dN) (sz:=1) (cp:=.kn (j+1)) w (λ_=>rfl) (λ_ _ _ _ e=>by cases e;simp);rw[List.length_replicate]at r1;obtain⟨ps,h2,F,pl,ib,cb,fb,vm,vl,I,e2,a2,c2,f2⟩:=aHj r1 (by omega);have d:=aQM (j+1) (by omega);obtain⟨bx,hC,bj⟩:=d.aQO;have n1:=c1.next;have n2:=c2.next;obtain⟨pc,im,pd,qd,h3,z,e3,e4,aL,c4⟩:=Duo.mk (Q:=λj=>u.next.nat<=j.nat) a2 hC (by omega) (λj f=>by have:=f2 j f;omega) λj hj=>by omega
 rw[bj,aIF,<-aTN j]at aL;have bn:([]:List (List Nat))=keysOf [false,false,false,false,false]:=by decide
 have aD:Ch (λj=>u.next.nat<=j.nat) u z:=(c1.trans c2).ch.trans c4 λ_ _ q=>q;obtain⟨C,af⟩:∃C:List Bool,C= [false,false,false,false,false]:=⟨_,rfl⟩
 obtain⟨h5,bl,c5,k5⟩:=mkW z (O (N 44 true) (C.map K));have N5:z.new (O (N 44 true) [(K false),(K false),(K false),(K false),(K false)])=h5:=by rw[bl,af];rfl
 have n4:=c4.next;have n5:=c5.next;have b2:=aD.next;have ak:=aL.nw (Q':=λj=>u.next.nat<=j.nat/\j≠z.next) c5 λj hj q=>⟨q,λe=>by rw[e]at hj;omega⟩
 have a9:=aQI bm;rw[bn,<-af]at ak a9;have bb:Ch (λj=>u.next.nat<=j.nat) u h5:=aD.nw c5;have a1:C.length=5:=by rw[af];rfl
 have an:∀g,lQ [Y U ((j+1:Nat):Int)] g=D (H [48+(j+1)]) g:=λg=>by
  have e:dZ (j+1)= [48+(j+1)]:=by unfold dZ;rw[show o! (j+1) 10=true by rw[n!];omega]
  rw[<-e];exact FP (aqI (n:=j+1) (by omega)) g
 have hQ:∀{g:Hp},u.next.nat<=g.next.nat->h5.next.nat<=g.next.nat->∀i:Pos,g.next.nat<=i.nat->u.next.nat<=i.nat/\i≠z.next:=λha hb i hi=>⟨by omega,λe=>by rw[e]at hi;have:=k5.2;omega⟩
 simp(disch:=omega)only[vvB,seval,BV,af7,FY,VF,VE,VD,VB,VA,nD,rl,ao,decide_false,bd,ek,B1,e2,fG,e3,e4,N5];refine Oc.then (dX (n:=l.length) (λ μ fr g=>∃(i m:Nat) (b:List Bool) (B:List Bx) (E:List En) (t:Int),fr.get (a! 1)=some v/\fr.get (a! 5)=some (Y U ((j+1:Nat):Int))/\fr.get (a! 6)=some (X ps 0)/\fr.get (a! 7)=some (X pc 0)/\fr.get (a! 8)=some (X pd 0)/\fr.get (a! 9)=some (X z.next 0)/\fr.get (a! 10)=some (Y U (i:Int))/\i+μ=l.length/\m<=i/\b.length=5/\
   FlOk j (keysOf b) m B E/\Duo (λj=>u.next.nat<=j.nat/\j≠z.next) g pc im pd qd ps (stF j b m B E (2+(i:Int)) ((j:Int)+2+m)) (stF j C 0 [bxF (j+1)] (jw (j+1)).ents 2 ((j:Int)+2))/\Kn g z.next (O (N 44 true) (b.map K))/\Ch (λj=>u.next.nat<=j.nat) u g/\h5.next.nat<=g.next.nat)
  (A:=λfr g=>∃(m:Nat) (b:List Bool) (B:List Bx) (E:List En),fr.get (a! 5)=some (Y U ((j+1:Nat):Int))/\fr.get (a! 6)=some (X ps 0)/\fr.get (a! 7)=some (X pc 0)/\fr.get (a! 8)=some (X pd 0)/\fr.get (a! 9)=some (X z.next 0)/\m<=l.length/\b.length=5/\
   FlOk j (keysOf b) m B E/\Duo (λj=>u.next.nat<=j.nat/\j≠z.next) g pc im pd qd ps (stF j b m B E (2+(l.length:Int)) ((j:Int)+2+m)) (stF j C 0 [bxF (j+1)] (jw (j+1)).ents 2 ((j:Int)+2))/\Kn g z.next (O (N 44 true) (b.map K))/\Ch (λj=>u.next.nat<=j.nat) u g/\h5.next.nat<=g.next.nat) (B:=λ_ _=>False) (by rw[dR];omega) ?_ ?_) ?_ ?_
 ·refine⟨0,0,C,_,_,0,qK0,qK0,qK0,qK0,qK0,qK0,qK1,by omega,g! _,a1,a9,?_,k5,bb,g! _⟩;have e:((j:Int)+2+((0:Nat):Int))=(j:Int)+2:=by omega
  rw[e];exact ak
 ·rintro μ fr g ⟨i,m,b,B,E,t,f1,M,S,W,Z,f9,ad,hi,hm,hb,ok,du,kg,cg,ng⟩;by_cases hz:μ=0
  ·have aw:i=l.length:=by omega
   subst aw;have eL:((l.length:Int)<(l.length:Int))=False:=eq_false (by omega);simp(disch:=omega)only[vvB,seval,vP,vN,f1,ad,rl,eL,decide_false];exact⟨rfl,m,b,B,E,qK2 M,qK2 S,qK2 W,qK2 Z,qK2 f9,hm,hb,ok,du,kg,cg,ng⟩
  ·have aw:i<l.length:=by omega
   have eL:((i:Int)<(l.length:Int))=True:=eq_true (by omega);obtain⟨a,ha⟩:∃a,l[i]?=some a:=⟨_,k! aw⟩
   have au:=hl a (List.mem_of_getElem? ha);obtain⟨ii,q,cs,ix,ex,-,-,-,ld,-⟩:=(R.ch (P':=P) (aJ _) cg λj hj p=>⟨p,λe=>by omega⟩).elt ha;obtain rfl:cs=u8C a:=ex;have ay:=ld g rfl 0 (Y .u8 (a:Int)) rfl;rw[v!]at ay;have cv:=aET au g;obtain⟨f,hf⟩:∃f,f=a % 5:=⟨_,rfl⟩
   have J:f<5:=by omega
   have ef:((a:Int)).tmod 5=(f:Int):=by rw[hf];rfl
   obtain⟨s,hs⟩:∃s,s=decide ((a:Int)<128):=⟨_,rfl⟩
   have bM:(decide ((a:Int)<128))=s:=hs.symm;obtain⟨g1,av⟩:∃g1,g1=g.put z.next (some (O (N 44 true) ((b.set f s).map K))):=⟨_,rfl⟩
   have IA:∀g,WJ 5 1 (X z.next 0) (Y U (f:Int)) g=D (X z.next f) g:=λg=>by
    have:=aAp (n:=5) (sz:=1) (p:=z.next) (o:=0) (k:=U) (c:=f) (h:=g) J;rwa[l!,x!]at this
   have S1:aS 1 (X z.next f) (K s) g=D V.undef g1:=by
    rw[av,List.map_set];exact kg.st ⟨rfl,rfl⟩ (by rw[i!];omega)
   have cp:Ch (λj=>j=z.next) g g1:=by rw[av];exact Ch.put _ _ rfl
   have bt:Kn g1 z.next (O (N 44 true) ((b.set f s).map K)):=by rw[av];exact kg.put _
   have be:=du.put cp λj q=>q.2;have aE:Ch (λj=>u.next.nat<=j.nat) u g1:=cg.trans cp λj hj e=>by rw[e]at hj;omega
   have np:=cp.next;have az:=aE.next;obtain⟨m',B',E',bv,bX,sp⟩:=aKv (pc:=pc) (im:=im) (ps:=ps) (s:=s) (f:=f) ok hb (by omega) J (st:=stF j b m B E (2+(i:Int)) ((j:Int)+2+m)) rfl ⟨by show 0<=2+(i:Int);omega,by show 2+(i:Int)<1000;omega⟩ rfl rfl;obtain⟨g2,aM,bg,al⟩:=be.run (by omega) (hQ az (by omega)) (aLd (s:=s) (f:=f) (k:=j+1) (by omega) J) (Alls.one sp rfl);have b3:=al.next;have bu:=bt.ch al λe=>e.2 rfl;have bo:=WL f;have nm:=λg=>Ik.aAx J g;have X1:∀g,aH .add .none (H [120,32,83,84,79,82,69,32]) (H [48+(j+1)]) g=D (H ([120,32,83,84,79,82,69,32]++ [48+(j+1)])) g:=λg=>dw (by simp);have X2:∀g,aH .add .none (H ([120,32,83,84,79,82,69,32]++ [48+(j+1)])) (H [32]) g=D (H ([120,32,83,84,79,82,69,32]++ [48+(j+1)]++ [32])) g:=λg=>dw (by simp);have X3:∀g,aH .add .none (H ([120,32,83,84,79,82,69,32]++ [48+(j+1)]++ [32])) (H [Ik.lT s]) g=D (H ([120,32,83,84,79,82,69,32]++ [48+(j+1)]++ [32]++ [Ik.lT s])) g:=λg=>dw (by simp);have X4:∀g,aH .add .none (H ([120,32,83,84,79,82,69,32]++ [48+(j+1)]++ [32]++ [Ik.lT s])) (H [70,76,65,71,83,46,83,73,76,69,78,84,32,40]) g=D (H ([120,32,83,84,79,82,69,32]++ [48+(j+1)]++ [32]++ [Ik.lT s]++ [70,76,65,71,83,46,83,73,76,69,78,84,32,40])) g:=λg=>dw (by simp);have X5:∀g,aH .add .none (H ([120,32,83,84,79,82,69,32]++ [48+(j+1)]++ [32]++ [Ik.lT s]++ [70,76,65,71,83,46,83,73,76,69,78,84,32,40])) (H (Ik.aaY.getD f [])) g=D (H ([120,32,83,84,79,82,69,32]++ [48+(j+1)]++ [32]++ [Ik.lT s]++ [70,76,65,71,83,46,83,73,76,69,78,84,32,40]++Ik.sQ f)) g:=λg=>dw (by show _+(Ik.sQ f).length<_;simp;omega);have X6:∀g,aH .add .none (H ([120,32,83,84,79,82,69,32]++ [48+(j+1)]++ [32]++ [Ik.lT s]++ [70,76,65,71,83,46,83,73,76,69,78,84,32,40]++Ik.sQ f)) (H [41,13,10]) g=D (H (Ik.auQ s f (j+1))) g:=λg=>dw (by simp;omega);have a6:(okT [120] []≠ [120,32,79,75,32,100,111,110,101,13,10])=False:=eq_false λe=>e (by decide);have fin:∀y:Go.Vm.F,y.get (a! 1)=some v->y.get (a! 5)=some (Y U ((j+1:Nat):Int))->y.get (a! 6)=some (X ps 0)->y.get (a! 7)=some (X pc 0)->y.get (a! 8)=some (X pd 0)->y.get (a! 9)=some (X z.next 0)->y.get (a! 10)=some (Y U ((i:Int)+1))->
     ∃a8,a8<μ/\∃(i m:Nat) (b:List Bool) (B:List Bx) (E:List En) (t:Int),y.get (a! 1)=some v/\y.get (a! 5)=some (Y U ((j+1:Nat):Int))/\y.get (a! 6)=some (X ps 0)/\y.get (a! 7)=some (X pc 0)/\y.get (a! 8)=some (X pd 0)/\y.get (a! 9)=some (X z.next 0)/\y.get (a! 10)=some (Y U (i:Int))/\i+a8=l.length/\m<=i/\b.length=5/\
   FlOk j (keysOf b) m B E/\Duo (λj=>u.next.nat<=j.nat/\j≠z.next) g2 pc im pd qd ps (stF j b m B E (2+(i:Int)) ((j:Int)+2+m)) (stF j C 0 [bxF (j+1)] (jw (j+1)).ents 2 ((j:Int)+2))/\Kn g2 z.next (O (N 44 true) (b.map K))/\Ch (λj=>u.next.nat<=j.nat) u g2/\h5.next.nat<=g2.next.nat:=λy f1 M S W Z f9 ad=>by
    refine⟨μ - 1,by omega,i+1,m',b.set f s,B',E',0,f1,M,S,W,Z,f9,by rw[ad];rfl,by omega,by omega,by simpa using hb,bv,?_,bu,aE.trans al λj _ e=>e.1,by omega⟩;have e:2+((i+1:Nat):Int)=2+(i:Int)+1:=by omega
    show Duo _ _ _ _ _ _ _ (stF j (b.set f s) m' B' E' (2+((i+1:Nat):Int)) _) _;rw[e];exact bg
   cases s with
   |true=>
    have ae:(a:Int)<128:=of_decide_eq_true hs.symm;have ap:((a:Int)>=128)=False:=eq_false (by omega);have ac:((a:Int)<128)=True:=eq_true ae;have X3:∀g,aH .add .none (H ([120,32,83,84,79,82,69,32]++ [48+(j+1)]++ [32])) (H [43]) g=D (H ([120,32,83,84,79,82,69,32]++ [48+(j+1)]++ [32]++ [Ik.lT true])) g:=X3;simp(disch:=omega)only[vvB,seval,vP,vN,ny,Eo,Ej,Ei,Eh,Eg,Ef,f1,M,S,W,f9,ad,rl,eL,decide_true,decide_false,ix,ay,cv,ef,ap,ac,IA,S1,an,X1,X2,X3,X4,nm,X5,X6,aM,a6];exact fin _ (qK2 f1) (qK2 M) (qK2 S) (qK2 W) (qK2 Z) (qK2 f9) (qK0)
   |false=>
    have ae:¬(a:Int)<128:=of_decide_eq_false hs.symm;have ap:((a:Int)>=128)=True:=eq_true (by omega);have ac:((a:Int)<128)=False:=eq_false ae;have X3:∀g,aH .add .none (H ([120,32,83,84,79,82,69,32]++ [48+(j+1)]++ [32])) (H [45]) g=D (H ([120,32,83,84,79,82,69,32]++ [48+(j+1)]++ [32]++ [Ik.lT false])) g:=X3;simp(disch:=omega)only[vvB,seval,vP,vN,ny,Eo,Ej,Ei,SC,Eh,Eg,Ef,f1,M,S,W,f9,ad,rl,eL,decide_true,decide_false,ix,ay,cv,ef,ap,ac,IA,S1,an,X1,X2,X3,X4,nm,X5,X6,aM,a6];exact fin _ (qK2 f1) (qK2 M) (qK2 S) (qK2 W) (qK2 Z) (qK2 f9) (qK0)
 ·rintro fr g ⟨m,b,B,E,M,S,W,Z,f9,hm,hb,ok,du,kg,cg,ng⟩;obtain⟨w1,w2,w3⟩:=aKr hb;have wl:=ae9 b 5;have IA:∀(f:Nat) (hf:f<5) g,WJ 5 1 (X z.next 0) (Y U (f:Int)) g=D (X z.next f) g:=λf hf g=>by
   have:=aAp (n:=5) (sz:=1) (p:=z.next) (o:=0) (k:=U) (c:=f) (h:=g) hf;rwa[l!,x!]at this
  simp(disch:=omega)only[vvB,seval,Sz,Sv];refine Oc.then (dX (n:=5) (λ μ fr g'=>∃(f:Nat),g'=g/\fr.get (a! 5)=some (Y U ((j+1:Nat):Int))/\fr.get (a! 6)=some (X ps 0)/\fr.get (a! 7)=some (X pc 0)/\fr.get (a! 8)=some (X pd 0)/\fr.get (a! 9)=some (X z.next 0)/\fr.get (a! 14)=some (H (iP b f))/\fr.get (a! 15)=some (Y U (f:Int))/\f+μ=5)
   (A:=λfr g'=>g'=g/\fr.get (a! 5)=some (Y U ((j+1:Nat):Int))/\fr.get (a! 6)=some (X ps 0)/\fr.get (a! 7)=some (X pc 0)/\fr.get (a! 8)=some (X pd 0)/\fr.get (a! 14)=some (H (iP b 5))) (B:=λ_ _=>False) (by rw[dR];omega) ?_ ?_) ?_ ?_
  ·exact⟨0,rfl,qK2 M,qK2 S,qK2 W,qK2 Z,qK2 f9,qK1,qK1,rfl⟩
  ·rintro μ fr g' ⟨f,rfl,M,S,W,Z,f9,G,ah,bS⟩;by_cases hz:μ=0
   ·have J:f=5:=by omega
    subst J;have eL:(((5:Nat):Int)<5)=False:=eq_false (by omega);simp(disch:=omega)only[vvB,seval,qi,qg,ah,eL,decide_false];exact⟨rfl,rfl,qK2 M,qK2 S,qK2 W,qK2 Z,qK2 G⟩
   ·have J:f<5:=by omega
    have eL:((f:Int)<5)=True:=eq_true (by omega);have ia:=IA f J;have nm:=λg=>Ik.aAx J g;have b0:=ae9 b f;have bo:=WL f;obtain⟨bf,a0⟩:∃bf,b[f]?=some bf:=⟨_,k! (by omega)⟩
    have a4:b.getD f false=bf:=by rw[List.getD_eq_getElem?_getD,a0];rfl
    have LB:=kg.ld (q:=f) (x:=K bf) (by rw[List.getElem?_map,a0];rfl);cases bf with
    |false=>
     have hw:iP b (f+1)=iP b f:=by show(if b.getD f false=true then _ else iP b f)=_;rw[a4,if_neg (by simp)]
     simp(disch:=omega)only[vvB,seval,qi,qg,vM,vK,f9,ah,eL,decide_true,ia,LB];exact⟨μ - 1,by omega,f+1,rfl,qK2 M,qK2 S,qK2 W,qK2 Z,qK2 f9,by rw[hw];simp only[vvB,seval,G],qK1,by omega⟩
    |true=>
     have hw:iP b (f+1)=(if iP b f≠ [] then iP b f++ [32] else iP b f)++Ik.sQ f:=by show(if b.getD f false=true then _ else iP b f)=_;rw[a4,if_pos rfl]
     by_cases he:iP b f= []
     ·have en:(iP b f≠ [])=False:=eq_false λq=>q he;rw[if_neg λq=>q he]at hw;have Z1:∀g,aH .add .none (H (iP b f)) (H (Ik.aaY.getD f [])) g=D (H (iP b f++Ik.sQ f)) g:=λg=>dw (by show _+(Ik.sQ f).length<_;omega);simp(disch:=omega)only[vvB,seval,qi,qg,vM,vK,DZ,DY,f9,G,ah,eL,decide_true,decide_false,ia,LB,en,nm,Z1];exact⟨μ - 1,by omega,f+1,rfl,qK2 M,qK2 S,qK2 W,qK2 Z,qK2 f9,by rw[hw];simp only[vvB,seval],qK1,by omega⟩
     ·have en:(iP b f≠ [])=True:=eq_true he;rw[if_pos he]at hw;have Z0:∀g,aH .add .none (H (iP b f)) (H [32]) g=D (H (iP b f++ [32])) g:=λg=>dw (by simp;omega);have Z1:∀g,aH .add .none (H (iP b f++ [32])) (H (Ik.aaY.getD f [])) g=D (H (iP b f++ [32]++Ik.sQ f)) g:=λg=>dw (by show _+(Ik.sQ f).length<_;simp;omega);simp(disch:=omega)only[vvB,seval,qi,qg,vM,vK,DZ,Sr,DY,f9,G,ah,eL,decide_true,ia,LB,en,nm,Z0,Z1];exact⟨μ - 1,by omega,f+1,rfl,qK2 M,qK2 S,qK2 W,qK2 Z,qK2 f9,by rw[hw];simp only[vvB,seval],qK1,by omega⟩
  ·rintro fr g' ⟨rfl,M,S,W,Z,G⟩;obtain⟨L,bs⟩:∃L,L=iP b 5:=⟨_,rfl⟩
   rw[<-bs]at G w1 w2 w3 wl;have az:=cg.next;have bR:=(kQ (n:=j+2+m) (by have:=ok.hn;omega)).1;have a3:dZ (j+1)= [48+(j+1)]:=by unfold dZ;rw[show o! (j+1) 10=true by rw[n!];omega]
   have bk:(fO (keysOf b)).length<=5000/\∀c∈fO (keysOf b),c<256:=by
    rw[w1];refine⟨by simp;omega,λc hc=>?_⟩;simp only[h!]at hc;rcases hc with(q|q)|q
    ·simp at q;omega
    ·exact w3 c q
    ·simp at q;omega
   have bw:=aKw (pc:=pc) (im:=im) (ps:=ps) (st:=stF j b m B E (2+(l.length:Int)) ((j:Int)+2+m)) ok rfl ⟨by show 0<=2+(l.length:Int);omega,by show 2+(l.length:Int)<1000;omega⟩ rfl rfl bk;obtain⟨g6,e6,bh,bc⟩:=du.run (by omega) (hQ az ng) (aLe (k:=j+1) (by omega)) (Alls.one bw rfl);have n6:=bc.next;have bz:=aEH (pc:=pd) (im:=qd) (ps:=ps) (st:=({stF j C 0 [bxF (j+1)] (jw (j+1)).ents 2 ((j:Int)+2) with acc:=flA j (keysOf b) m B E}:Sn)) ⟨by show(0:Int)<=2;omega,by show(2:Int)<1000;omega⟩ (λks e=>by cases e;exact ok.aqB _);obtain⟨g7,e7,bi,bL⟩:=bh.swap.run (by omega) (hQ (by omega) (by omega)) aIu (Alls.one bz rfl);have hu:sH (flA j (keysOf b) m B E) (some (vwS j ((j:Int)+2)))=if m=0 then [] else SV (j+1) (fO (keysOf b)) (j+2+m):=aSC j m _ _ _;have e7:yC [X pd 0,X ps 0,H [122,32,78,79,79,80,13,10]] g6=D (H (sH (flA j (keysOf b) m B E) (some (vwS j ((j:Int)+2)))++okT [122] [])) g7:=e7;rw[hu]at e7;obtain⟨F7,J7,b4,b1,bE,bN,b6,b5,b7,I7,G7,b8,w7,-⟩:=bi;have CK:yh [X ps 0] g7=D (iV ((j:Int)+2+m)) g7:=abx w7.acc;have am:∀g,lQ [Y U ((j:Int)+2+m)] g=D (H (dZ (j+2+m))) g:=λg=>by
    have e:((j+2+m:Nat):Int)=(j:Int)+2+m:=by omega
    rw[<-e];exact FP (aqI (n:=j+2+m) (by have:=ok.hn;omega)) g
   have ba:okT [122] []= [122,32,79,75,32,100,111,110,101,13,10]:=by decide
   have bA:okT [121] []= [121,32,79,75,32,100,111,110,101,13,10]:=by decide
   obtain⟨w,ag⟩:∃w:List Nat,w= [48+(j+1)]:=⟨_,rfl⟩
   have bB:w.length=1:=by rw[ag];rfl
   have Y1:∀g,aH .add .none (H [121,32,70,69,84,67,72,32]) (H w) g=D (H ([121,32,70,69,84,67,72,32]++w)) g:=λg=>dw (by simp;omega);have Y2:∀g,aH .add .none (H ([121,32,70,69,84,67,72,32]++w)) (H [32,70,76,65,71,83,13,10]) g=D (H (Ik.awf (j+1))) g:=λg=>by rw[ag];exact dw (by simp)
   have A1:∀g,aH .add .none (H [42,32]) (H w) g=D (H ([42,32]++w)) g:=λg=>dw (by simp;omega);have A2:∀g,aH .add .none (H ([42,32]++w)) (H [32,70,69,84,67,72,32,40,70,76,65,71,83,32,40]) g=D (H ([42,32]++w++ [32,70,69,84,67,72,32,40,70,76,65,71,83,32,40])) g:=λg=>dw (by simp;omega);have A3:∀g,aH .add .none (H ([42,32]++w++ [32,70,69,84,67,72,32,40,70,76,65,71,83,32,40])) (H L) g=D (H ([42,32]++w++ [32,70,69,84,67,72,32,40,70,76,65,71,83,32,40]++L)) g:=λg=>dw (by simp;omega);have eqT:rU (j+1) (oh++ [32]++fO (keysOf b))++ [13,10]++okT [121] []= [42,32]++w++ [32,70,69,84,67,72,32,40,70,76,65,71,83,32,40]++L++ [41,41,13,10,121,32,79,75,32,100,111,110,101,13,10]:=by
    rw[bA,w1,ag];unfold rU;rw[a3];simp only[e!,j!,b!]
   have A4:∀g,aH .add .none (H ([42,32]++w++ [32,70,69,84,67,72,32,40,70,76,65,71,83,32,40]++L)) (H [41,41,13,10,121,32,79,75,32,100,111,110,101,13,10]) g=D (H (rU (j+1) (oh++ [32]++fO (keysOf b))++ [13,10]++okT [121] [])) g:=λg=>by rw[eqT];exact dw (by simp;omega)
   obtain⟨tt,bq⟩:∃tt,tt=rU (j+1) (oh++ [32]++fO (keysOf b))++ [13,10]++okT [121] []:=⟨_,rfl⟩
   rw[<-bq]at e6 A4;have D2:∀g,aH .add .none (H ([42,32]++w)) (H [32,70,69,84,67,72,32,40,85,73,68,32]) g=D (H ([42,32]++w++ [32,70,69,84,67,72,32,40,85,73,68,32])) g:=λg=>dw (by simp;omega);have D3:∀g,aH .add .none (H ([42,32]++w++ [32,70,69,84,67,72,32,40,85,73,68,32])) (H w) g=D (H ([42,32]++w++ [32,70,69,84,67,72,32,40,85,73,68,32]++w)) g:=λg=>dw (by simp;omega);have D4:∀g,aH .add .none (H ([42,32]++w++ [32,70,69,84,67,72,32,40,85,73,68,32]++w)) (H [32,70,76,65,71,83,32,40]) g=D (H ([42,32]++w++ [32,70,69,84,67,72,32,40,85,73,68,32]++w++ [32,70,76,65,71,83,32,40])) g:=λg=>dw (by simp;omega);have D5:∀g,aH .add .none (H ([42,32]++w++ [32,70,69,84,67,72,32,40,85,73,68,32]++w++ [32,70,76,65,71,83,32,40])) (H L) g=D (H ([42,32]++w++ [32,70,69,84,67,72,32,40,85,73,68,32]++w++ [32,70,76,65,71,83,32,40]++L)) g:=λg=>dw (by simp;omega);have D6:∀g,aH .add .none (H ([42,32]++w++ [32,70,69,84,67,72,32,40,85,73,68,32]++w++ [32,70,76,65,71,83,32,40]++L)) (H [41,32,77,79,68,83,69,81,32,40]) g=D (H ([42,32]++w++ [32,70,69,84,67,72,32,40,85,73,68,32]++w++ [32,70,76,65,71,83,32,40]++L++ [41,32,77,79,68,83,69,81,32,40])) g:=λg=>dw (by simp;omega);have D7:∀g,aH .add .none (H ([42,32]++w++ [32,70,69,84,67,72,32,40,85,73,68,32]++w++ [32,70,76,65,71,83,32,40]++L++ [41,32,77,79,68,83,69,81,32,40])) (H (dZ (j+2+m))) g=D (H ([42,32]++w++ [32,70,69,84,67,72,32,40,85,73,68,32]++w++ [32,70,76,65,71,83,32,40]++L++ [41,32,77,79,68,83,69,81,32,40]++dZ (j+2+m))) g:=λg=>dw (by simp;omega);have aq:SV (j+1) (fO (keysOf b)) (j+2+m)= [42,32]++w++ [32,70,69,84,67,72,32,40,85,73,68,32]++w++ [32,70,76,65,71,83,32,40]++L++ [41,32,77,79,68,83,69,81,32,40]++dZ (j+2+m)++ [41,41,13,10]:=by
    rw[w1,ag];unfold SV;rw[a3];simp only[e!,j!,b!]
   have D8:∀g,aH .add .none (H ([42,32]++w++ [32,70,69,84,67,72,32,40,85,73,68,32]++w++ [32,70,76,65,71,83,32,40]++L++ [41,32,77,79,68,83,69,81,32,40]++dZ (j+2+m))) (H [41,41,13,10]) g=D (H (SV (j+1) (fO (keysOf b)) (j+2+m))) g:=λg=>by rw[aq];exact dw (by simp;omega)
   have ai:(SV (j+1) (fO (keysOf b)) (j+2+m)).length<=500:=by rw[aq];simp;omega
   have aa:∃r,SV (j+1) (fO (keysOf b)) (j+2+m)=42::r:=by rw[aq];exact⟨_,rfl⟩
   obtain⟨td,bp⟩:∃td,td=SV (j+1) (fO (keysOf b)) (j+2+m):=⟨_,rfl⟩
   rw[<-bp]at e7 D8 ai aa;have D9:∀g,aH .add .none (H td) (H [122,32,79,75,32,100,111,110,101,13,10]) g=D (H (td++okT [122] [])) g:=λg=>by rw[ba];exact dw (by simp;omega)
   have ab:∀g,lQ [Y U ((j+1:Nat):Int)] g=D (H w) g:=λg=>by rw[ag];exact an g
   have ar:(tt≠tt)=False:=eq_false λe=>e rfl;by_cases ax:m=0
   ·have aj:L= []:=w2.2 (ok.zero ax);rw[if_pos ax,b!]at e7;have ez:(okT [122] []= [122,32,79,75,32,100,111,110,101,13,10])=True:=eq_true ba;have ew:(L= [])=True:=eq_true aj;simp(disch:=omega)only[vvB,seval,vJ,vI,vH,vG,vF,M,S,W,Z,G,ab,Y1,Y2,e6,e7,A1,A2,A3,A4,ar,decide_false,CK,am,D2,D3,D4,D5,D6,D7,D8,ez,ew,decide_true,abn];exact abv.ret (qK0)
   ·rw[if_neg ax]at e7;have a7:td++okT [122] []≠ [122,32,79,75,32,100,111,110,101,13,10]:=λe=>by
     obtain⟨r,hr⟩:=aa;rw[hr]at e;simp at e
    have ez:(td++okT [122] []= [122,32,79,75,32,100,111,110,101,13,10])=False:=eq_false a7;have aR:(td++okT [122] []≠ [122,32,79,75,32,100,111,110,101,13,10])=True:=eq_true a7;obtain⟨uu,br⟩:∃uu,uu=td++okT [122] []:=⟨_,rfl⟩
    rw[<-br]at e7 ez aR D9;have eu:(uu=uu)=True:=eq_true rfl;by_cases aj:L= []
    ·have ew:(L= [])=True:=eq_true aj;simp(disch:=omega)only[vvB,seval,vJ,vI,vH,vG,vF,M,S,W,Z,G,ab,Y1,Y2,e6,e7,A1,A2,A3,A4,ar,decide_false,CK,am,D2,D3,D4,D5,D6,D7,D8,D9,ez,eu,ew,decide_true,abn];exact abv.ret (qK0)
    ·have ew:(L= [])=False:=eq_false aj;simp(disch:=omega)only[vvB,seval,vJ,vI,vH,vG,vF,M,S,W,Z,G,ab,Y1,Y2,e6,e7,A1,A2,A3,A4,ar,decide_false,CK,am,D2,D3,D4,D5,D6,D7,D8,D9,ez,aR,eu,ew,decide_true,abn];exact abv.ret (qK0)
  ·intro fr g q;exact q.elim
 ·intro fr g q;exact q.elim
end
open Go.Proofs.Tryz
def azZ{z:Int}(h:(Lit.int .u8 z).wf=true):∃a:Nat,z=(a:Int)/\a<256:=by
 have b:0<=z/\z<=255:=by
  unfold Lit.wf at h;simp only[Bool.and_eq_true,decide_eq_true_eq]at h;exact h
 exact⟨z.toNat,by omega,by omega⟩
def aFe:∀{els:List (List V)},(∀vs∈els,(∃z,vs= [Y .u8 z]/\(Lit.int .u8 z).wf=true)/\vs.length=1)->∃l:List Nat,els=l.map u8C/\∀a∈l,a<256
 | [],_=>⟨[],rfl,λa h=>by simp at h⟩
 |vs::els,h=>by
  obtain⟨⟨z,rfl,w⟩,-⟩:=h vs (by simp);obtain⟨a,rfl,b⟩:=azZ w;obtain⟨l,e,hl⟩:=aFe (els:=els) λvs c=>h vs (List.mem_cons_of_mem _ c);exact⟨a::l,by rw[e];rfl,λx d=>by rcases List.mem_cons.1 d with rfl|q;exact b;exact hl x q⟩
def walkOfImapFlags{t:Type}{g:TypeId×Value->t}{b:Nat->Bool}{f:Bool}(W:Go.World){r:Reach}{u base:Nat}{v0 v1:Value}{y z:DataW t}{L M:List MemPlace}
  (q:Value.okWide prog W r u 5 v0) (j:DataW.Trod g prog W base b f 5 v0 y L) (s:Value.okWide prog W r u 43 v1) (o:DataW.Trod g prog W base b f 43 v1 z M):
  Calls prog 5 #[v0,v1] W λe x=>e=.returned (.bool true)/\Below W.heap.size W x:=by
 obtain⟨a,len,cap,rfl⟩:=okWide_slice underlying43 s;obtain⟨m,J⟩:=o;obtain⟨Q,rfl,-,-,P⟩:=open_int underlying5 q j;obtain⟨n,rfl,hn⟩:=azZ P;obtain⟨c,v,M',h',els,B,C,E,-,i,-,G⟩:=aES underlying43 (n:=1) kR (by omega) (aOU underlying5) J (Seen.empty aI W);obtain rfl:Value.slice a len cap=c:=by simpa[Value.cells]using B
 obtain⟨l,rfl,hl⟩:=aFe i;have I:∃h,Ci [Y .u8 (n:Int),v] h'=D (K true) h:=by
  rcases G with⟨rfl,rfl,p⟩|⟨rfl,rfl,p⟩|⟨cap,rfl,rfl,w,d⟩
  ·obtain rfl:l= []:=by simpa using p
   exact VZ (Rws.aP (λ_=>True) _ _ _) hl hn (by decide)
  ·obtain rfl:l= []:=by simpa using p
   exact VZ (Rws.emp (λ_=>True) _ _ _) hl hn (by decide)
  ·have k:=Kn.new (h0 aI) (O .ro (l.map u8C).flatten);have R:=Kn.rws (c:=u8C) (sz:=1) (cp:=.kn cap) k (λ_=>rfl) (λ_ _ _ _ e=>by cases e;rw[i!]at d;exact d);rw[i!];exact VZ R hl hn (by rw[bJ];decide)
 obtain⟨h,e⟩:=I;exact ayZ (cargs:= [_,_]) (args:= [_,_]) arj func5 kR (c:=codeOf f5) kR E ⟨_,_,gU _ .u8 n,⟨_,[],C,rfl,rfl⟩,rfl⟩ e
end Go.Proofs.Im
