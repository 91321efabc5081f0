/- Lemmas. No conditions. -/
import Derived.Test.YtpgppmioigacoaaGreatDoorSAX
import Derived.Test.YtpgppmioigacoaaGreatDoorSAW
import Derived.Test.YtpgppmioigacoaaGreatDoorSAH
set_option linter.all false
set_option maxRecDepth 100000
open List renaming range→a!,length_append→b!,mem_map→c!,map_cons→e!,map_append→g!,append_nil→h!,length_filter_le→i!,range_succ→j!,length_map→k!,map_congr_left→l!,mem_range→n!,filter_append→o!,map_map→q!,mem_append→r!,map_nil→t!,mem_filter→u!,getElem?_eq_getElem→v!,range'→y!,findIdx?_cons→A!,filter_cons→B!,filter_nil→D!,mem_cons→F!
open Go.Vm.Pos renaming of→d!
open Bool renaming false_eq_true→p!,and_eq_true→C!
open Nat renaming zero_add→w!,le_trans→x!,le_refl→z!
open Go.Vm.V renaming int→Y,ptr→X,bool→K,str→H
open Go.IntKind renaming i64→U
open Go.Vm.Ob renaming cells→O
open Go.Vm.Wr renaming rw→N
open Go.Vm.R renaming ok→D
noncomputable section
open Go Go.Proofs Go.Vm Go.Ln Go.Im Go.Proofs.Im Go.ChangeShapes Go.WideShapes Go.ChangeAt Go.RowKit
namespace Go.Vm
def aap{l:List (List Nat)}(h:∀t∈l,t.length<=2):(iI [32] l).length<=3*l.length/\fV l<=2*l.length:=by
 induction l with
 |nil=>exact⟨z! _,z! _⟩
 |cons a l b=>
  obtain⟨c,d⟩:=b λt ht=>h t (by simp[ht]);have e:=h a (by simp);have e1:(iI [32] (a::l)).length=a.length+1+(iI [32] l).length:=by simp[iI];omega
  have e2:fV (a::l)=a.length+fV l:=by simp[fV]
  simp only[List.length_cons];omega
end Go.Vm
namespace Go.Proofs.Im
abbrev vT:List Nat:= [42,32,83,69,65,82,67,72]
abbrev nWd(uid:Bool)(x:Int×Int×Ml):List Nat:=eX (PW uid x).toNat
section
variable{bb:Nat}{h h' g h0:Hp}{P F I J Z:Pos->Prop}{ps pl ib pv ir pc im:Pos}{cb:Cap}{fb uid:Bool}{vm vl vv vw:V}{st:Sn}{L:List V}{s:List Nat}{w:Wds}{ks:Int×Int×List (Int×Int×Int)}{ts:List Tm}{pr:Int×Int×Ml->Bool}
def aOe(s:List Nat)(h:Hp):bP 9 [H []] 1 [(0,1,H s)] h=D (.slice h.next 0 1 (.kn 1)) (h.new (O (N 9 true) [H s])):=(rfl)
def aQu(b:Bool)(h:Hp):bK [Y U 0,H [],(K false),(K false),(K false)] [(4,1,K b)] h=D (anV 0 [] false false b) h:=(rfl)
def lq(uid:Bool)(l:List (Int×Int×Ml)):List Nat:=vT++iI [32] (l.map (nWd uid))
def ayu(q:Rq bb h0 Z h pc im ps ir uid w s st L vw P F J pl ib cb fb vm vl vv I)(hv:st.vw=some ks)(hA:st.acc.Small)(hk:ks.2.2.length<=1000)
  (fl:Flt ks.1 (ks.2.2.map (·.1)) w ts) (fine:Fine ts) (E:(fE st.acc.mails ks.1 0 ks.2.2).length<=50)
  (hm:∀x∈fE st.acc.mails ks.1 0 ks.2.2,(∃n,n<20/\x.2.2.text=Ik.nN n/\abP ts x.2.2 n (pr x))/\(x.2.2.keys.length<=1000/\x.2.2.mem.length<=1000)/\0<=PW uid x/\PW uid x<100) (hs:s.length<=1000000):
  ∃h',Ou [X pc 0,X ir 0] h=D (anV 0 [] false false (!uid)) h'/\DL bb h0 Z vw P h' pc im ps ir uid w (s++(lq uid ((fE st.acc.mails ks.1 0 ks.2.2).filter pr)++ [13,10])) st:=by
 obtain⟨a,af⟩:∃a,a=fE st.acc.mails ks.1 0 ks.2.2:=⟨_,rfl⟩
 rw[<-af]at hm E⊢;have ag:=q.wd.view;rw[hv]at ag;obtain⟨pv,vwr,m,rfl,ak,ae⟩:=ag;have a3:m.length=ks.2.2.length:=by have:=congrArg List.length ae;simpa using this
 have ax:m.map (·.uid)=ks.2.2.map (·.1):=by rw[<-ae,q!];rfl
 obtain⟨h1,ar,c1,k1⟩:=mkW h (O (N tA true) zAn);have q1:=q.nw c1;have aj:¬OfB ir 5 L h.next:=λo=>by have:=(o.from q.bd _).2;omega
 have a0:¬Ft F J pc im h.next:=λo=>by have:=q.wd.lt _ o;omega
 have C1:=q1.wd.con.ld (q:=1) (x:=X pv 0) rfl;have eB:=av8 (ak.ch c1 λ_ _ q=>q);obtain⟨ru,h2,e2,o2,c2⟩:=aff (ak.ch c1 λ_ _ q=>q) (by omega);have Ru:=o2.rws (aN _);rw[ax]at Ru;have q2:=q1.nw c2;have R3:=q2.kr.ld q2.l3;have aa:=q1.kr.ld q1.l3;obtain⟨vt,h3,e3,Rt,c3⟩:=aHE fl q2.ws Ru;have ap:HY [vw,iV ks.1,ru] h2=D (.tuple (.cons vt (.cons (K false) (.cons (Y U 0) .nil)))) h3:=e3;have q3:=q2.nw c3;obtain⟨h4,au,c4,k4⟩:=mkW h3 (O (N 9 true) [H vT]);have q4:=q3.nw c4;have R1:=q4.kr.ld q4.l1;obtain⟨rv,h5,e5,o5,c5⟩:=q4.messages hv hA hk;rw[<-af]at o5;have R5:=o5.rws xU;have aM:=R5.len;have q5:=q4.nw c5;have al:=(Rt.nw fZ c4).nw fZ c5;have an:∀{k:Out},chk (λh=>aG (X pc 1) h) (X pv 0) k 1 [h1]=k:=sN rfl C1;have ao:∀{k:Out},chk (λh=>aG (X ir 3) h) vw k 2 [h1,h1]=k:=avR (by
  obtain⟨cs,sl,-⟩:=q.ws;rcases sl.is with⟨_,rfl|rfl⟩|⟨i,o,cp,wr,all,rfl,_⟩<;>rfl) aa aa
 have oA:∀g,eY 145 [Y U 0,H [],(K false),(K false),(K false)] g=D (X g.next 0) (g.new (O (N tA true) zAn)):=λg=>rfl;have oM:∀g,eY 200 [Y U 0,Y U 0,Y U 0,Y U 0,H [],Y U 0,.aQ,.aQ,Y U 0,Y U 0] g=D (X g.next 0) (g.new (O (N tMs true) zMs)):=λg=>rfl;rw[aqO]
 suffices T:aX Tryz.prog [.cell 4 145] (λr h'=>r=anV 0 [] false false (!uid)/\DL bb h0 Z vw P h' pc im ps ir uid w (s++(lq uid (a.filter pr)++ [13,10])) st) (XA (T.set (some (X ir 0)) (d! 1) (T.set (some (X pc 0)) (d! 0) T.nil)) h) by
  obtain⟨r,h',e,rfl,c⟩:=T;exact⟨h',e,c⟩
 simp(disch:=omega)only[vvB,seval,XA,aqu,adz,ady,adx,adw,adu,adZ,oA,<-ar,C1,eB,an,e2,R3,ao,ap,aOe,<-au,R1,e5,aM,Int.reduceEq,decide_false,decide_true];have a1:∀x∈a,(nWd uid x).length<=2/\∀c∈nWd uid x,c<256:=λx hx=>by
  have:=mJ (n:=(PW uid x).toNat) (by have:=(hm x hx).2.2;omega);exact⟨this.1,this.2.1⟩
 refine Oc.then (dO (σ:=V×Int) (n:=a.length) (pi:=42) (pn:=41) (pc:=43) [0,1,4,5,6,8,9,40] (λy=> [X pc 0,X ir 0,X h.next 0,vt,K false,y.1,iV y.2,rv]) (λk y g=>Nw h5 g/\EX h5.next.nat g y.1 (vT::((a.take k).filter pr).map (nWd uid)))
  (A:=λfr g=>∃w',Fa fr [0,1,4,6,8] [X pc 0,X ir 0,X h.next 0,K false,w']/\Nw h5 g/\EX h5.next.nat g w' (vT::(a.filter pr).map (nWd uid))) (B:=λfr g=>False) (s:=(.slice h3.next 0 1 (.kn 1),0))
  (λfr h _ k e1 e2=>by simp only[vvB,seval,adt,e1,e2]) (λfr h k _ e1=>by simp(disch:=omega)only[vvB,seval,Y7,e1]) (by decide) (by rw[dP];omega) (qK0) (qK0) (by simp only[Fa,vvB,seval,and_self]) ⟨Nw.refl _,.inl ⟨_,_,rfl,rfl,k4.nw c5⟩⟩ ?_ ?_) ?_ ?_
 ·rintro k ⟨w',z⟩ fr g av v ab fa ⟨d,M⟩;obtain⟨Q,f1,S,f5,f6,f8,f9,f,-⟩:=fa;obtain⟨x,hx⟩:∃x,a[k]?=some x:=⟨_,v! av⟩
  have az:=List.mem_of_getElem? hx;obtain⟨⟨n,hn,ay,hf⟩,aw,G⟩:=hm x az;obtain⟨i,qq,cs,ix,ex,-,-,-,-,ld⟩:=(R5.nw xU d).elt hx;obtain⟨vk,vs,rfl,rk,rs⟩:=ex;have ai:=ld g rfl;obtain⟨g1,aq,b,kE⟩:=mkW g (O (N tMs true) (msC x vk vs));have S1:=mkT 10 zMs aq;have ad:cO 8 (X g.next 2) g1=D (.agg (V.ofList (dL x.2.2 vk vs))) g1:=by
   show dR g1 g.next (λ_ cs=>match gJ 8 (fG 2 cs) with|some l=>R.ok (V.agg (V.ofList l)) g1|none=>.bad)=_;rw[dM (wr:=N tMs true) (all:=msC x vk vs) (by rw[kE.1];rfl)];rfl
  obtain⟨g2,e6,C⟩:=aHD ((al.nw fZ d).nw fZ b) fine hf (rk.nw (aN _) b) (rs.nw (aN _) b) ay hn aw;have tk:(a.take (k+1)).filter pr=(a.take k).filter pr++if pr x=true then [x] else []:=by
   rw[List.take_add_one,hx,o!];cases h:pr x<;>simp[h]
  have ng:=d.next;have a6:=b.next;have a7:=C.next;cases hp:pr x with
  |false=>
   rw[hp]at e6 tk;simp(disch:=omega)only[vvB,seval,QK,QJ,f,v,f5,ix,ai,oM,S1,ad,e6,w!];refine⟨qK2 v,qK2 ab,(w',z),by simp only[Fa,vvB,seval,Q,f1,S,f5,f6,f8,f9,f,and_self],(d.trans b).trans C,?_⟩;rw[tk];simp only[p!,if_false,h!];exact(M.nw b).nw C
  |true=>
   rw[hp]at e6 tk;have LN:=(kE.nw C).ldN (n:=10) rfl;have qg:=((q5.nw d).nw b).nw C;have e7:=ayv (x:=x) (vk:=vk) (vs:=vs) qg.kr qg.l4;obtain⟨W,p,u,-⟩:=mkW g2 (O (N tMs true) (msC x vk vs));rw[<-p]at e7;have e8:=ahx G.1 G.2 W;have a8:=u.next;obtain⟨w2,g4,e9,aL,c9⟩:=(((M.nw b).nw C).nw u).app (s:=nWd uid x) (by omega) (by
    have h1:((a.take k).filter pr).length<=(a.take k).length:=i! _ _;have h2:(a.take k).length<=k:=by rw[List.length_take];omega
    simp;omega)
   have am:Nw h5 g4:=(((d.trans b).trans C).trans u).then c9 λj hj q=>by omega
   have aE:Kn g4 g.next (O (N tMs true) (msC x vk vs)):=((kE.nw C).nw u).ch c9 λe=>by have:=M.lt _ e.2;omega
   have M8:=aE.ld (q:=8) (x:=iV x.2.2.mod) rfl;simp(disch:=omega)only[vvB,seval,QK,QJ,Y9,Y8,Q,f1,f8,f9,f,v,f5,ix,ai,oM,S1,ad,e6,w!,LN,e7,e8,aOe,e9,M8,ahi,Nat.reduceAdd];refine⟨qK2 v,qK2 ab,(w2,max z x.2.2.mod),by simp only[Fa,vvB,seval,Q,f1,S,f5,f6,f,and_self],am,?_⟩;rw[tk];simp only[if_true,g!,e!,t!];exact aL
 ·rintro⟨w',z⟩ fr g fa ⟨d,M⟩;obtain⟨Q,f1,S,f5,f6,f8,f9,f,-⟩:=fa;rw[List.take_length]at M;exact⟨w',by simp only[Fa,Q,f1,S,f6,f8,and_self],d,M⟩
 ·rintro fr g ⟨w',fa,d,M⟩;obtain⟨Q,f1,S,f6,f8,-⟩:=fa;have ng:=d.next;have a5:h1.next.nat<=h5.next.nat:=(((c2.trans c3).trans c4).trans c5).next;have n1:h.next.nat<h1.next.nat:=k1.2;have qg:=q5.nw d;have a2:(a.filter pr).length<=50:=x! (i! _ _) E;have ac:∀t∈(a.filter pr).map (nWd uid),t.length<=2/\∀c∈t,c<256:=λt ht=>by
   obtain⟨x,hx,rfl⟩:=c!.1 ht;exact a1 x (u!.1 hx).1
  have jl:=aap λt ht=>(ac t ht).1;rw[k!]at jl;have jm:dN [32] (vT::(a.filter pr).map (nWd uid))=lq uid (a.filter pr):=by rw[xX];rfl
  have aB:lq uid (a.filter pr)≠ []:=by unfold lq;simp
  have a4:(lq uid (a.filter pr)).length<=200:=by unfold lq;rw[b!];simp;omega
  obtain⟨rs,g2,L2,e7,q7,c7⟩:=qg.aQi M.rws (by simp;omega) (by
   have:fV (vT::(a.filter pr).map (nWd uid))=8+fV ((a.filter pr).map (nWd uid)):=by simp[fV]
   omega) (λt ht=>by
    rcases F!.1 ht with rfl|ht
    ·decide
    ·exact(ac t ht).2) (.inr (by rw[jm];exact aB)) (by rw[jm];omega)
  rw[jm]at q7;have R4:=q7.kr.ld q7.l4;have aD:=(k1.nw (((c2.trans c3).trans c4).trans c5)).nw d;have ah:=aD.ch c7.ch aj;obtain⟨W,p⟩:∃W,W=g2.put h.next (some (O (N tA true) (anL 0 [] false false (!uid)))):=⟨_,rfl⟩
  have S3:aV 5 (X h.next 0) (anV 0 [] false false (!uid)) g2=D V.undef W:=by rw[p];exact ah.stN rfl rfl
  have k3:Kn W h.next (O (N tA true) (anL 0 [] false false (!uid))):=by rw[p];exact ah.put _
  have c8:Ch (λj=>j=h.next) g2 W:=by rw[p];exact Ch.put _ _ rfl
  have aR:¬OfB ir 5 L2 h.next:=λo=>(c7.sub _ o).elim aj λl=>by omega
  have q8:=q7.atv c8 aR a0 q.chz.next;have bA:=λh=>aQu (!uid) h;have oU:∀g,oUn .not (K uid) g=D (K (!uid)) g:=λg=>by cases uid<;>rfl
  simp(disch:=omega)only[vvB,seval,Y6,Y5,Y4,Q,f1,S,f6,f8,e7,R4,oU,bA,S3];refine aX.ret (r:=anV 0 [] false false (!uid)) (by simp only[bT,vvB,seval,S,LX,k3.ldN (n:=5) rfl,bW]) ⟨rfl,q8.mk'⟩
 ·intro fr g q;exact q.elim
end
end Go.Proofs.Im
namespace Go.Im
def aDP{A:Acc}{ks:Int×Int×List (Int×Int×Int)}(h:Wu A ks):PU A (some ks)= []/\ZK A (some ks)=some ks:=by
 obtain⟨box,had,l⟩:=ks;have a:∀{l:List (Int×Int×Int)} {i:Nat},(∀x∈l,((Wn A.mails box).find? λy=>decide (y.1=x.1)&&decide (y.2.id=x.2.1)).isSome=true)->Ip (Wn A.mails box) i l= []:=by
  intro l;induction l with
  |nil=>intro i _;rfl
  |cons x l d=>
   intro i hl;show(if _ then _ else _)=_;rw[if_pos (hl x (by simp))];exact d λy c=>hl y (by simp[c])
 refine⟨a h,?_⟩;show some (box,had,l.filter _)=_;rw[List.filter_eq_self.2 λx b=>h x b]
abbrev ag5:List Nat:= [83,69,65,82,67,72]
def akL(tag:List Nat)(w:Wds):Ln.Got:=⟨1,.cons 1 tag .nil (.cons 1 ag5 .nil w)⟩
def aCE(tag:List Nat)(w:Wds):Ln.Got:=⟨1,.cons 1 tag .nil (.cons 1 [85,73,68] .nil (.cons 1 ag5 .nil w))⟩
structure SeaOk (A:Acc) (ks:Int×Int×List (Int×Int×Int)) (uid:Bool) (w:Wds) (ts:List Tm) (pr:Int×Int×Ml->Bool):Prop where
 fl:Flt ks.1 (ks.2.2.map (·.1)) w ts
 fine:Fine ts
 few:(fE A.mails ks.1 0 ks.2.2).length<=50
 ok:∀x∈fE A.mails ks.1 0 ks.2.2,(∃n,n<20/\x.2.2.text=Ik.nN n/\abP ts x.2.2 n (pr x))/\(x.2.2.keys.length<=1000/\x.2.2.mem.length<=1000)/\0<=PW uid x/\PW uid x<100
def aF9{l:List (Int×Int×Ml)}{uid:Bool}(hl:l.length<=50)(h:∀x∈l,0<=PW uid x/\PW uid x<100):(lq uid l).length<=200/\∀c∈lq uid l,c<256:=by
 have b:∀t∈l.map (nWd uid),t.length<=2/\∀c∈t,c<256:=λt ht=>by
  obtain⟨x,f,rfl⟩:=c!.1 ht;have:=mJ (n:=(PW uid x).toNat) (by have:=h x f;omega);exact⟨this.1,this.2.1⟩
 have g:=aap λt ht=>(b t ht).1;rw[k!]at g;unfold lq;refine⟨by rw[b!];simp;omega,λc d=>?_⟩;rcases r!.1 d with q|q
 ·simp at q;omega
 ·obtain⟨t,ht,d⟩:=List.mem_flatten.1 q;obtain⟨a,e,rfl⟩:=c!.1 ht;rcases r!.1 d with q|q
  ·simp at q;omega
  ·exact(b a e).2 c q
end Go.Im
namespace Go.Proofs.Im
section
variable{ps pc im:Pos}{st:Sn}{ks:Int×Int×List (Int×Int×Int)}{w:Wds}{ts:List Tm}{pr:Int×Int×Ml->Bool}{tag:List Nat}{uid:Bool}
def azh(a:st.vw=some ks)(b:Wu st.acc ks)(s2:List Nat):zD 0 tag [] s2 false {st with cnt:=st.cnt+1}=s2++okT tag []/\Fz 0 false ({st with cnt:=st.cnt+1}:Sn)={st with cnt:=st.cnt+1}:=by
 have q:=aDP b;constructor
 ·unfold zD;rw[if_neg (by decide),if_neg (by simp)];show s2++PU st.acc st.vw++okT tag []=_;rw[a,q.1,h!]
 ·unfold Fz;rw[if_neg (by simp)];show({st with cnt:=st.cnt+1,vw:=ZK st.acc st.vw}:Sn)=_;rw[a,q.2,<-a]
def azg(d:st.vw=some ks)(c:st.acc.Small)(hk:ks.2.2.length<=1000)(a:SeaOk st.acc ks uid w ts pr)(bb:Nat)(ir:Pos)(vw:V)(P:Pos->Prop):
  Cmd 71 bb pc im ps ir uid w [] {st with cnt:=st.cnt+1} vw P (anL 0 [] false false (!uid)) (lq uid ((fE st.acc.mails ks.1 0 ks.2.2).filter pr)++ [13,10]) {st with cnt:=st.cnt+1}:=λh0 Z h L F J pl ib cb fb vm vl vv I q=>by
 obtain⟨b,e,r⟩:=ayu (ks:=ks) (ts:=ts) (pr:=pr) q d c hk a.fl a.fine a.few a.ok (by simp);exact⟨b,e,r⟩
def aue(a:SeaOk st.acc ks uid w ts pr):(lq uid ((fE st.acc.mails ks.1 0 ks.2.2).filter pr)++ [13,10]).length<=300/\∀c∈lq uid ((fE st.acc.mails ks.1 0 ks.2.2).filter pr)++ [13,10],c<256:=by
 have:=aF9 (uid:=uid) (l:=(fE st.acc.mails ks.1 0 ks.2.2).filter pr) (x! (i! _ _) a.few) λx d=>(a.ok x (u!.1 d).1).2.2;refine⟨by rw[b!];simp;omega,λc b=>?_⟩;rcases r!.1 b with q|q
 ·exact this.2 c q
 ·simp at q;omega
def azp(t:List Nat)(ht:t.length<=10):(okT t []).length<=100:=by simp[okT,lineS,dN];omega
def aIk(w:Wds):w.drop 0=w:=by cases w<;>rfl
def ZQ(a:st.vw=some ks)(j:0<=st.cnt/\st.cnt<1000)(ht:tag.length<=10/\∀c∈tag,c<256)(b:CanUpd st.acc ks)(h:Wu st.acc ks)(i:SeaOk st.acc ks false w ts pr):
  wS pc im ps (akL tag w) st (lq false ((fE st.acc.mails ks.1 0 ks.2.2).filter pr)++ [13,10]++okT tag []) true {st with cnt:=st.cnt+1}:=by
 have d:({st with cnt:=st.cnt+1}:Sn).vw≠none:=by rw[show({st with cnt:=st.cnt+1}:Sn).vw=st.vw from rfl,a];simp
 have tx:=aue i;have en:=azh (tag:=tag) a h (lq false ((fE st.acc.mails ks.1 0 ks.2.2).filter pr)++ [13,10]);have:=wS.cmd (pc:=pc) (im:=im) (ps:=ps) (st:=st) (g:=akL tag w) (x:=⟨1,tag,.nil⟩) (y:=⟨1,ag5,.nil⟩) (kk:=0) (tx:= []) (last:=false) (bare:=false) (s2:=lq false ((fE st.acc.mails ks.1 0 ks.2.2).filter pr)++ [13,10]) (st2:={st with cnt:=st.cnt+1}) (part:=true) rfl rfl rfl rfl rfl ⟨by show tag.length<=1000000;omega,ht.2⟩ ⟨by decide,by decide⟩ ⟨j.1,by omega⟩
  (N9.of (n:=3) (f:=71) (u:=true) (by decide) rfl (.inr (.inr (.inr ⟨rfl,d⟩))) (λbb ir vw P=>by rw[show(akL tag w).words.drop 2=w from aIk w];exact azg a b.small (by have:=b.few;omega) i bb ir vw P) rfl) (.inl rfl) ⟨by simp,by simp⟩ ⟨by omega,tx.2⟩ (λ_ _ k e=>by rw[a]at e;cases e;exact b) (by rw[en.1,b!];have:=azp tag ht.1;have:=tx.1;omega) (λ_ _ _ k e=>by rw[a]at e;cases e;exact h)
 rw[en.1,en.2]at this;exact this
def aGa(a:st.vw=some ks)(j:0<=st.cnt/\st.cnt<1000)(ht:tag.length<=10/\∀c∈tag,c<256)(b:CanUpd st.acc ks)(i:Wu st.acc ks)(h:SeaOk st.acc ks true w ts pr):
  wS pc im ps (aCE tag w) st (lq true ((fE st.acc.mails ks.1 0 ks.2.2).filter pr)++ [13,10]++okT tag []) true {st with cnt:=st.cnt+1}:=by
 have d:({st with cnt:=st.cnt+1}:Sn).vw≠none:=by rw[show({st with cnt:=st.cnt+1}:Sn).vw=st.vw from rfl,a];simp
 have tx:=aue h;have en:=azh (tag:=tag) a i (lq true ((fE st.acc.mails ks.1 0 ks.2.2).filter pr)++ [13,10]);have:=wS.cmd (pc:=pc) (im:=im) (ps:=ps) (st:=st) (g:=aCE tag w) (x:=⟨1,tag,.nil⟩) (y:=⟨1,[85,73,68],.nil⟩) (kk:=0) (tx:= []) (last:=false) (bare:=false) (s2:=lq true ((fE st.acc.mails ks.1 0 ks.2.2).filter pr)++ [13,10]) (st2:={st with cnt:=st.cnt+1}) (part:=false) rfl rfl rfl rfl rfl ⟨by show tag.length<=1000000;omega,ht.2⟩ ⟨by decide,by decide⟩ ⟨j.1,by omega⟩
  (N9.behind (n:=3) (f:=71) (x:=⟨1,ag5,.nil⟩) rfl rfl ⟨by decide,by decide⟩ rfl (.inr (.inr (.inr ⟨rfl,d⟩))) (λbb ir vw P=>by rw[show((aCE tag w).words.drop 2).drop 1=w from aIk w];exact azg a b.small (by have:=b.few;omega) h bb ir vw P) rfl) (.inl rfl) ⟨by simp,by simp⟩ ⟨by omega,tx.2⟩ (λ_ _ k e=>by rw[a]at e;cases e;exact b) (by rw[en.1,b!];have:=azp tag ht.1;have:=tx.1;omega)
 rw[en.1,en.2]at this;exact this
end
end Go.Proofs.Im
namespace Go.Im
def arA{a:Type}(p:a->Bool):∀l:List a,l.find? p=(l.findIdx? p).bind λi=>l[i]?
 | []=>rfl
 |x::l=>by
  rw[List.find?_cons,A!];cases h:p x with
  |true=>simp
  |false=>
   simp only[p!,if_false];rw[arA p l];cases l.findIdx? p<;>simp
def ax7{b:Type}{c:Int}{f:Nat->b}{key:b->Int}(hk:∀i,key (f i)=(i:Int)+c){k i:Nat}(hi:i<k):
  ((a! k).map f).findIdx? (λy=>decide (key y=(i:Int)+c))=some i/\((a! k).map f).find? (λy=>decide (key y=(i:Int)+c))=some (f i):=by
 have a:((a! k).map f).findIdx? (λy=>decide (key y=(i:Int)+c))=some i:=by
  rw[List.findIdx?_eq_some_iff_getElem];refine⟨by simpa using hi,by simp[hk],λj hj=>?_⟩;simp[hk];omega
 refine⟨a,?_⟩;rw[arA,a];show((a! k).map f)[i]?=_;rw[List.getElem?_map,List.getElem?_range hi];rfl
section
variable{c:Int}{g:Nat->Ml}(o:∀i,(g i).id=(i:Int)+c)(r:∀i,(g i).mem= [(1,(i:Int)+c)])
include r
def arI:∀k:Nat,Wn ((a! k).map g) 1=(a! k).map λi:Nat=>((i:Int)+c,g i)
 |0=>rfl
 |k+1=>by
  have a:=arI k;unfold Wn at a⊢;rw[j!,g!,g!,List.flatMap_append,a];congr 1;simp[r]
include o
def aie{k:Nat}(t:Nat->Int):∀d s:Nat,s+d=k->fE ((a! k).map g) 1 s ((y! s d).map λi:Nat=>((i:Int)+c,(i:Int)+c,t i))=(y! s d).map λi:Nat=>((i:Int)+1,(i:Int)+c,g i)
 |0,_,_=>rfl
 |d+1,s,h=>by
  rw[List.range'_succ,e!,e!];show CX ((a! k).map g) 1 s ((s:Int)+c,(s:Int)+c,t s)++fE ((a! k).map g) 1 (s+1) ((y! (s+1) d).map λi:Nat=>((i:Int)+c,(i:Int)+c,t i))=_;rw[aie t d (s+1) (by omega)];have b:=(ax7 (f:=g) (key:=λm:Ml=>m.id) o (show s<k by omega)).2;have a:CX ((a! k).map g) 1 s ((s:Int)+c,(s:Int)+c,t s)= [((s:Int)+1,(s:Int)+c,g s)]:=by
   unfold CX;show(match ((a! k).map g).find? (λm=>decide (m.id=(s:Int)+c)) with|some m=>_|none=>_)=_;rw[b];show(if((g s).mem.any λy=>decide ((1,(s:Int)+c)=y))=true then _ else _)=_;rw[r,if_pos (by simp)]
  rw[a];rfl
def aD4{k:Nat}(t:Nat->Int):fE ((a! k).map g) 1 0 ((a! k).map λi:Nat=>((i:Int)+c,(i:Int)+c,t i))=(a! k).map λi:Nat=>((i:Int)+1,(i:Int)+c,g i):=by
 have:=aie (k:=k) o r t k 0 (w! k);rwa[<-List.range_eq_range']at this
end
def amx:∀(l:List (Int×Ml)) (a:Int),a<=l.foldl (λa x=>max a x.1) a/\∀y∈l,y.1<=l.foldl (λa x=>max a x.1) a
 | [],a=>⟨Int.le_refl _,λ_ h=>by cases h⟩
 |x::l,a=>by
  have h:=amx l (max a x.1);rw[List.foldl_cons];refine⟨Int.le_trans (Int.le_max_left _ _) h.1,λy b=>?_⟩;rcases F!.1 b with rfl|b
  ·exact Int.le_trans (Int.le_max_right _ _) h.1
  ·exact h.2 y b
def bxG(k:Nat)(md:Int):Bx:={id:=1,name:=jc,par:=0,valid:=1,next:=(k:Int)+1,mod:=md}
def GOk(T:Nat->List Nat×List (List Nat))(c:Int)(G:Nat->Ml):Prop:=∀k,(G k).id=(k:Int)+c/\(G k).text=(T k).1/\(G k).keys=(T k).2/\(G k).mem= [(1,(k:Int)+c)]/\(G k).mod=(k:Int)+c+1
structure FilG (T:Nat->List Nat×List (List Nat)) (n:Nat) (A:Acc):Prop where
 clock:A.clock=(n:Int)+1
 boxes:A.boxes= [bxG n ((n:Int)+1)]
 ml:∃G,GOk T 1 G/\A.mails=(a! n).map G
 ents:A.ents.length=3*n
 logged:A.Logged
 lastId:A.lastId=(n:Int)
 oct:0<=A.octets/\A.octets<=1000*(n:Int)
section
variable{T:Nat->List Nat×List (List Nat)}{n:Nat}{A C:Acc}
def FilG.nil:FilG T 0 aeR:=⟨rfl,rfl,⟨λk=>{id:=(k:Int)+1,thread:=0,text:=(T k).1,at_:=0,keys:=(T k).2,mem:= [(1,(k:Int)+1)],mod:=(k:Int)+1+1,born:=0},λk=>⟨rfl,rfl,rfl,rfl,rfl⟩,rfl⟩,rfl,⟨λ_ h=>by simp[aeR]at h⟩,rfl,by decide⟩
def FilG.snoc(f:FilG T n A)(ht:(T n).1.length<=1000)(i:Int):FilG T (n+1) (Yz A (bxG n ((n:Int)+1)) 0 (T n).1 (T n).2 i):=by
 have a:=f.clock;have m:=f.oct;have hl:=f.lastId;obtain⟨G,h,l⟩:=f.ml;refine⟨?_,?_,⟨λk=>if k=n then apj A (bxG n ((n:Int)+1)) 0 (T n).1 (T n).2 i else G k,λk=>?_,?_⟩,?_,⟨?_⟩,?_,?_⟩
 ·show A.clock+1=_;rw[a];omega
 ·show kY (A.clock+1) [(bxG n ((n:Int)+1)).id] (updB (bxG n ((n:Int)+1)).id (λb=>{b with next:=b.next+1}) A.boxes)= [bxG (n+1) (((n+1:Nat):Int)+1)];rw[f.boxes,a];simp only[kY,updB,bxG,if_true,↓reduceIte];congr 1
 ·by_cases hk:k=n
  ·subst hk;dsimp only;rw[if_pos rfl];refine⟨?_,rfl,rfl,rfl,?_⟩
   ·show A.lastId+1=_;rw[hl]
   ·show A.clock+1=_;rw[a]
  ·dsimp only;rw[if_neg hk];exact h k
 ·show A.mails++ [apj A (bxG n ((n:Int)+1)) 0 (T n).1 (T n).2 i]=_;rw[l,j!,g!,e!,t!,if_pos rfl];congr 1;exact l! λk hk=>by rw[if_neg (by have:=n!.1 hk;omega)]
 ·show(A.ents++_).length=_;rw[b!,f.ents,b!];simp;omega
 ·intro e j;have d:e∈A.ents++([qp (A.clock+1) (bxG n ((n:Int)+1)).id]++ [({mod:=A.clock+1,kind:=2,id:=A.lastId+1,how:=1}:En),{mod:=A.clock+1,kind:=3,id:=CS A i,how:=aeZ i}]):=j;show e.mod<=A.clock+1;rcases r!.1 d with q|q
  ·have:=f.logged.mods e q;omega
  ·simp at q;rcases q with rfl|rfl|rfl<;>exact Int.le_refl _
 ·show A.lastId+1=_;rw[hl];omega
 ·show 0<=A.octets+((T n).1.length:Int)/\A.octets+((T n).1.length:Int)<=_;omega
def FilG.small(f:FilG T n A)(hn:n<=100)(u:∀k,(T k).2.length<=1):A.Small where
 clock:=by rw[f.clock];omega
 boxes:=by rw[f.boxes];simp
 mails:=by obtain⟨G,d,b⟩:=f.ml;rw[b];simp;omega
 ents:=by rw[f.ents];omega
 each:=λm a=>by
  obtain⟨G,d,b⟩:=f.ml;rw[b]at a;obtain⟨k,_,rfl⟩:=c!.1 a;obtain⟨_,_,e,h,_⟩:=d k;rw[e,h];have:=u k;simp;omega
def FilG.app(f:FilG T n A)(hn:n<=100)(u:∀k,(T k).2.length<=1):CanApp A 0 (bxG n ((n:Int)+1)) where
 small:=f.small hn u
 logged:=f.logged
 at_:=by rw[f.boxes];rfl
 find:=by rw[f.boxes];simp[bxG]
 next:=by show 0<=(n:Int)+1/\(n:Int)+1<=900000;omega
 clock:=by rw[f.clock];omega
 lastId:=by rw[f.lastId];omega
 ents:=by rw[f.ents];omega
 mails:=by obtain⟨G,b,a⟩:=f.ml;rw[a];simp;omega
 oct:=by have:=f.oct;omega
structure SeaC (T:Nat->List Nat×List (List Nat)) (n:Nat) (C:Acc):Prop where
 clock:C.clock=(n:Int)+3
 boxes:∃md,C.boxes= [bxG (n+1) md]
 ml:∃G,GOk (λk=>T (k+1)) 2 G/\C.mails=(a! n).map G
 ents:C.ents.length<=3*n+6
def FilG.gone(f:FilG T (n+1) A):∃m,A.mails[0]?=some m/\m.id=1/\A.mails.findIdx? (λx=>decide (x.id=m.id))=some 0/\m.In A/\m.text=(T 0).1/\SeaC T n (akQ A 0 m):=by
 obtain⟨G,e,b⟩:=f.ml;have a:=e 0;have d:(a! (n+1)).map G=G 0::(a! n).map λk=>G (k+1):=by
  rw[List.range_succ_eq_map,e!,q!];rfl
 refine⟨G 0,?_,?_,?_,?_,a.2.1,?_⟩
 ·rw[b,d];rfl
 ·rw[a.1];rfl
 ·rw[b,d,A!,if_pos (decide_eq_true rfl)]
 ·refine⟨by rw[a.2.2.2.1];exact SC ltI (by simp),λj x y _ h=>?_,λid o=>?_,by rw[a.2.2.2.1];simp⟩
  ·rw[a.2.2.2.1]at h;simp at h
  ·rw[a.2.2.2.1]at o;simp at o;subst o;exact⟨0,by rw[f.boxes];simp[bxG]⟩
 ·refine⟨?_,?_,⟨λk=>G (k+1),λk=>?_,?_⟩,?_⟩
  ·show A.clock+1=_;rw[f.clock];omega
  ·refine⟨A.clock+1,?_⟩;show kY (A.clock+1) ((G 0).mem.map (·.1)) A.boxes=_;rw[f.boxes,a.2.2.2.1];simp[kY,updB,bxG]
  ·have:=e (k+1);refine⟨by rw[this.1];omega,this.2.1,this.2.2.1,by rw[this.2.2.2.1];simp;omega,by rw[this.2.2.2.2];omega⟩
  ·show A.mails.eraseIdx 0=_;rw[b,d];rfl
  ·show(A.ents++_).length<=_;rw[b!,f.ents,a.2.2.2.1];simp;omega
variable(s:SeaC T n C)(hn:n<=20)(u:∀k,(T k).2.length<=1)
include s
def SeaC.msgs:∃G,GOk (λk=>T (k+1)) 2 G/\Wn C.mails 1=(a! n).map (λi:Nat=>((i:Int)+2,G i))/\(gu C 1).2.2=(a! n).map (λi:Nat=>((i:Int)+2,(i:Int)+2,(i:Int)+3))/\fE C.mails 1 0 (gu C 1).2.2=(a! n).map λi:Nat=>((i:Int)+1,(i:Int)+2,G i):=by
 obtain⟨G,a,d⟩:=s.ml;have b:=arI (c:=2) (λi=>(a i).2.2.2.1) n;rw[<-d]at b;have e:(gu C 1).2.2=(a! n).map (λi:Nat=>((i:Int)+2,(i:Int)+2,(i:Int)+3)):=by
  show(Wn C.mails 1).map thK=_;rw[b,q!];apply l!;intro i _;show((i:Int)+2,(G i).id,(G i).mod)=_;rw[(a i).1,(a i).2.2.2.2,show(i:Int)+2+1=(i:Int)+3 by omega]
 refine⟨G,a,b,e,?_⟩;rw[e,d];exact aD4 (c:=2) (λi=>(a i).1) (λi=>(a i).2.2.2.1) _
include hn u
def SeaC.small:C.Small where
 clock:=by rw[s.clock];omega
 boxes:=by obtain⟨md,e⟩:=s.boxes;rw[e];simp
 mails:=by obtain⟨G,d,b⟩:=s.ml;rw[b];simp;omega
 ents:=by have:=s.ents;omega
 each:=λm a=>by
  obtain⟨G,d,b⟩:=s.ml;rw[b]at a;obtain⟨k,_,rfl⟩:=c!.1 a;obtain⟨_,_,f,h,_⟩:=d k;rw[f,h];have:=u (k+1);simp;omega
theorem SeaC.sorted:(Wn C.mails 1).Pairwise λx y=>x.1<y.1:=by
 obtain⟨G,b,a,-⟩:=s.msgs;rw[a,List.pairwise_map];exact List.pairwise_lt_range.imp λh=>by show(_:Int)+2<_;omega
def SeaC.aOb:∃b,CanBox C 0 b/\b.id=1:=by
 obtain⟨md,hb⟩:=s.boxes;obtain⟨G,d,a,-⟩:=s.msgs;refine⟨bxG (n+1) md,⟨s.small hn u,?_,by rw[hb];rfl,?_,s.sorted hn u,?_,by show(0:Int)<=1/\(1:Int)<100;omega,by show 0<=((n+1:Nat):Int)+1/\((n+1:Nat):Int)+1<100;omega,by rw[s.clock];omega⟩,rfl⟩
 ·rw[hb];refine⟨by simp,λb hb=>by simp at hb;rw[hb];rfl,λb hb=>by simp at hb;rw[hb];exact⟨by show jc.length<=_;decide,by show ∀c∈jc,c<256;decide⟩,λk b hk=>?_⟩;cases k with
  |zero=>simp at hk;subst hk;simp
  |succ k=>simp at hk
 ·rw[hb];unfold vK;have:aag jc=jc:=by unfold aag;rw[if_pos rfl]
  rw[this];simp[bxG]
 ·show(Wn C.mails 1).length<50;rw[a];simp;omega
theorem SeaC.stays:Wu C (gu C 1):=λx a=>by
 obtain⟨G,b,e,d,-⟩:=s.msgs;rw[d]at a;obtain⟨i,hi,rfl⟩:=c!.1 a;show((Wn C.mails 1).find? _).isSome=true;rw[List.find?_isSome,e];exact⟨_,List.mem_map_of_mem hi,by simp[(b i).1]⟩
def SeaC.aOa:CanUpd C (gu C 1):=by
 obtain⟨G,l,f,e,-⟩:=s.msgs;refine⟨s.small hn u,by rw[e];simp;omega,s.sorted hn u,by show(Wn C.mails 1).length<50;rw[f];simp;omega,λx h y d=>?_,λy d=>?_⟩
 ·rw[e]at h;obtain⟨i,hi,rfl⟩:=c!.1 h;have a:y∈Wn C.mails 1:=List.mem_of_find?_eq_some d;have b:=List.find?_some d;rw[f]at a;obtain⟨j,hj,rfl⟩:=c!.1 a;rw[C!,decide_eq_true_eq]at b;have m:(j:Int)+2=(i:Int)+2:=b.1;show(G j).mod<=(i:Int)+3;rw[(l j).2.2.2.2];omega
 ·exact(amx _ 0).2 y d
end
def FC(l:List Bool)(i:Nat):Bool:=l.getD i false
def tOf(l:List Bool):Nat->List Nat×List (List Nat)
 |0=>(Ik.jI,[])
 |k+1=>(Ik.nN k,if FC l k=true then [gZ] else [])
def ag1(l:List Bool):∀k,(tOf l k).2.length<=1
 |0=>Nat.zero_le _
 |k+1=>by show(if FC l k=true then [gZ] else []).length<=1;split<;>simp
def AZ(l:List Bool)(k:Nat):List Nat:=iI [32] (((a! k).filter (FC l)).map λi=>eX (i+1))
def noT(l:List Bool)(k:Nat):List Nat:=iI [32] (((a! k).filter λi=>!FC l i).map λi=>eX (i+1))
def Ba(l:List Bool)(k:Nat):List Nat:=iI [32] (((a! k).filter (FC l)).map λi=>eX (i+2))
def Io(l:List (List Nat))(t:List Nat):iI [32] (l++ [t])=iI [32] l++ [32]++t:=by simp[iI]
def aNr{l:List Bool}{k:Nat}(h:FC l k=true):AZ l (k+1)=AZ l k++ [32]++eX (k+1)/\noT l (k+1)=noT l k/\Ba l (k+1)=Ba l k++ [32]++eX (k+2):=by
 unfold AZ noT Ba;simp only[j!,o!,B!,D!,h,if_true,Bool.not_true,p!,if_false,h!,g!,e!,t!,Io,and_self]
def aNs{l:List Bool}{k:Nat}(h:FC l k=false):AZ l (k+1)=AZ l k/\noT l (k+1)=noT l k++ [32]++eX (k+1)/\Ba l (k+1)=Ba l k:=by
 unfold AZ noT Ba;simp only[j!,o!,B!,D!,h,if_true,Bool.not_false,p!,if_false,h!,g!,e!,t!,Io,and_self]
def avo{n:Nat}(hn:n<=20)(p:Nat->Bool)(c:Nat)(d:c<=2):(iI [32] (((a! n).filter p).map λi=>eX (i+c))).length<=60:=by
 have:=(aap (l:=((a! n).filter p).map λi=>eX (i+c)) λt ht=>by
  obtain⟨i,hi,rfl⟩:=c!.1 ht;have:=n!.1 (u!.1 hi).1;exact(mJ (n:=i+c) (by omega)).1).1
 rw[k!]at this;have a:=i! p (a! n);rw[List.length_range]at a;omega
def atL{l:List Bool}{n:Nat}(hn:n<=20):(AZ l n).length<=60/\(noT l n).length<=60/\(Ba l n).length<=60:=⟨avo hn _ 1 (by omega),avo hn _ 1 (by omega),avo hn _ 2 (by omega)⟩
abbrev xAt(G:Nat->Ml)(i:Nat):Int×Int×Ml:=((i:Int)+1,(i:Int)+2,G i)
def aNP(uid:Bool)(G:Nat->Ml)(i:Nat):nWd uid (xAt G i)=eX (i+if uid=true then 2 else 1):=by
 cases uid
 ·show eX (((i:Int)+1).toNat)=_;rfl
 ·show eX (((i:Int)+2).toNat)=_;rfl
def aJu(G:Nat->Ml)(uid:Bool)(pr:Int×Int×Ml->Bool)(p:Nat->Bool)(n:Nat)(h:∀i,i<n->pr (xAt G i)=p i):lq uid (((a! n).map (xAt G)).filter pr)=vT++iI [32] (((a! n).filter p).map λi=>eX (i+if uid=true then 2 else 1)):=by
 unfold lq;rw[List.filter_map,q!];congr 2;have e:(a! n).filter (pr∘xAt G)=(a! n).filter p:=List.filter_congr λi hi=>h i (n!.1 hi);rw[e];apply l!;intro i _;exact aNP uid G i
section
variable{l:List Bool}{n:Nat}{C:Acc}{G:Nat->Ml}(b:GOk (λk=>tOf l (k+1)) 2 G)(hn:n<=20)
include b
def aoV(i:Nat):lI (G i)=FC l i:=by
 show((G i).keys.any λa=>decide (gZ=a))=_;rw[(b i).2.2.1];show((if FC l i=true then [gZ] else []).any λa=>decide (gZ=a))=_;cases FC l i<;>rfl
include hn
def al8(c:fE C.mails 1 0 (gu C 1).2.2=(a! n).map (xAt G)){uid:Bool}{w:Wds}{ts:List Tm}{pr:Int×Int×Ml->Bool}(fl:Flt 1 ((gu C 1).2.2.map (·.1)) w ts)(d:Fine ts)(h:∀i,i<n->abP ts (G i) i (pr (xAt G i))):SeaOk C (gu C 1) uid w ts pr where
 fl:=fl
 fine:=d
 few:=by show(fE C.mails 1 0 (gu C 1).2.2).length<=50;rw[c];simp;omega
 ok:=λx e=>by
  have a:x∈fE C.mails 1 0 (gu C 1).2.2:=e;rw[c]at a;obtain⟨i,hi,rfl⟩:=c!.1 a;have hi:=n!.1 hi;have g:=b i;refine⟨⟨i,by omega,g.2.1,h i hi⟩,⟨?_,?_⟩,?_⟩
  ·show(G i).keys.length<=1000;rw[g.2.2.1];exact x! (ag1 l (i+1)) (by omega)
  ·show(G i).mem.length<=1000;rw[g.2.2.2.1];simp
  ·unfold PW;split
   ·show 0<=(i:Int)+2/\(i:Int)+2<100;omega
   ·show 0<=(i:Int)+1/\(i:Int)+1<100;omega
end
def avy{j:Nat}:∀{n:Nat},j<n->(a! n).filter (λi=>decide (i=j))= [j]
 |n+1,h=>by
  rw[j!,o!];by_cases e:j=n
  ·subst e;have:(a! j).filter (λi=>decide (i=j))= []:=List.filter_eq_nil_iff.2 λx a=>by have:=n!.1 a;simp;omega
   rw[this];simp
  ·rw[avy (by omega)];have:decide (n=j)=false:=decide_eq_false (by omega);simp[this]
def av1(l:List Bool)(n j:Nat):List Nat:=(vT++AZ l n++ [13,10]++okT [97] [])++((vT++noT l n++ [13,10]++okT [98] [])++((vT++Ba l n++ [13,10]++okT [99] [])++((vT++iI [32] [eX (j+1)]++ [13,10]++okT [100] [])++((vT++ [13,10]++okT [101] [])++ []))))
def aGJ(j:Nat):Uy (Ik.aoW j)= [akL [97] (V6 [83,69,69,78]),akL [98] (V6 [85,78,83,69,69,78]),aCE [99] (V6 [115,101,101,110]),akL [100] (aBO (Ik.upS j)),akL [101] aBP]:=rfl
def aJz{j:Nat}(hj:j<20):Fed (Ik.auf j) (Uy (Ik.aoW j)):=Fed.mk (by unfold Ik.auf;simp[Ik.vI]) (by simp[Ik.aoW]) (Ik.aPR j hj)
abbrev stS(C:Acc)(c:Int):Sn:={acc:=C,inn:=true,only:=false,cnt:=c,vw:=some (gu C 1)}
def aGe{l:List Bool}{n j:Nat}{C:Acc}{pc im ps:Pos}(s:SeaC (tOf l) n C)(hn:1<=n/\n<=20)(hj:j<n):∃st,Alls pc im ps (Uy (Ik.aoW j)) (stS C 2) (av1 l n j) st:=by
 obtain⟨G,b,I,z,a⟩:=s.msgs;have g:=s.aOa hn.2 (ag1 l);have f:=s.stays hn.2 (ag1 l);have y:(gu C 1).2.2.map (·.1)=aaA 2 n:=by
  rw[z,q!];apply l!;intro i _;show(i:Int)+2=2+(i:Int);omega
 have m:∀c:Nat,c<256->([c]:List Nat).length<=10/\∀x∈ [c],x<256:=λc E=>⟨by simp,λx B=>by simp at B;omega⟩
 have d:∀(uid:Bool) (pr:Int×Int×Ml->Bool) (p:Nat->Bool),(∀i,i<n->pr (xAt G i)=p i)->lq uid ((fE C.mails (gu C 1).1 0 (gu C 1).2.2).filter pr)=vT++iI [32] (((a! n).filter p).map λi=>eX (i+if uid=true then 2 else 1)):=λuid pr p h=>by
  show lq uid ((fE C.mails 1 0 (gu C 1).2.2).filter pr)=_;rw[a];exact aJu G uid pr p n h
 have q:=ZQ (pc:=pc) (im:=im) (ps:=ps) (st:=stS C 2) (tag:= [97]) (pr:=λx=>lI x.2.2) rfl ⟨by show(0:Int)<=2;omega,by show(2:Int)<1000;omega⟩ (m 97 (by omega)) g f (al8 b hn.2 a aGQ azQ λi _=>azR);have r:=ZQ (pc:=pc) (im:=im) (ps:=ps) (st:=stS C 3) (tag:= [98]) (pr:=λx=>!lI x.2.2) rfl ⟨by show(0:Int)<=3;omega,by show(3:Int)<1000;omega⟩ (m 98 (by omega)) g f (al8 b hn.2 a aEh aEi λi _=>aEj);have t:=aGa (pc:=pc) (im:=im) (ps:=ps) (st:=stS C 4) (tag:= [99]) (pr:=λx=>lI x.2.2) rfl ⟨by show(0:Int)<=4;omega,by show(4:Int)<1000;omega⟩ (m 99 (by omega)) g f (al8 b hn.2 a aGP azQ λi _=>azR);have u:=ZQ (pc:=pc) (im:=im) (ps:=ps) (st:=stS C 5) (tag:= [100]) (pr:=λx=>decide (x.1=(j:Int)+1)) rfl ⟨by show(0:Int)<=5;omega,by show(5:Int)<1000;omega⟩ (m 100 (by omega)) g f (al8 b hn.2 a (aJr (nm:=Ik.upS j)) aJv λi _=>by
  have e:decide ((xAt G i).1=(j:Int)+1)=Nat.beq i j:=by
   show decide ((i:Int)+1=(j:Int)+1)=_;by_cases h:i=j
   ·subst h;rw[Nat.beq_refl];exact decide_eq_true rfl
   ·rw[decide_eq_false (by omega)];cases hb:Nat.beq i j with
    |false=>rfl
    |true=>exact absurd (Nat.eq_of_beq_eq_true hb) h
  show abP _ _ _ (decide ((xAt G i).1=(j:Int)+1));rw[e];exact aJx (by omega))
 have o:=ZQ (pc:=pc) (im:=im) (ps:=ps) (st:=stS C 6) (tag:= [101]) (pr:=λx=>false) rfl ⟨by show(0:Int)<=6;omega,by show(6:Int)<1000;omega⟩ (m 101 (by omega)) g f (al8 b hn.2 a (by rw[y];exact aJs (box:=1) hn ⟨by omega,by omega⟩) aJw λi _=>aJy (by simp));rw[d false _ (FC l) λi _=>aoV b i]at q;rw[d false _ (λi=>!FC l i) λi _=>by show(!lI (G i))=_;rw[aoV b i]]at r;rw[d true _ (FC l) λi _=>aoV b i]at t;have v:lq false ((fE C.mails (gu C 1).1 0 (gu C 1).2.2).filter λx=>decide (x.1=(j:Int)+1))=vT++iI [32] [eX (j+1)]:=by
  rw[d false _ (λi=>decide (i=j)) λi _=>decide_eq_decide.2 (by show(i:Int)+1=(j:Int)+1↔_;omega)];have:(a! n).filter (λi=>decide (i=j))= [j]:=avy hj;rw[this];rfl
 rw[v]at u;rw[d false _ (λ_=>false) λ_ _=>rfl]at o;have w:iI [32] (((a! n).filter λ_=>false).map λi=>eX (i+if false=true then 2 else 1))= []:=by simp[iI]
 rw[w,h!]at o;rw[aGJ];exact⟨_,.go q (.go r (.go t (.go u (.go o (.nil _)))))⟩
def amM(b:Bool):List Go.Vm.V:= [K b]
end Go.Im
namespace Go.Proofs.Im
section
variable{h h' g d:Hp}{P F I:Pos->Prop}{ps pl ib pc im:Pos}{A:Acc}{cb:Cap}{fb:Bool}{v vm vl:V}{l:List Bool}{n m:Nat}
def avX(h:Hp):Tj [] h=D (K true) h:=Bh rfl h
def aG2{n:Nat}(hn:n<100)(h:Hp):jS [Y U (n:Int)] h=D (H (eX n)) h:=by
 have e:Ik.aaG [Y U (n:Int)]=none:=by unfold Ik.aaG;simp only[];rw[if_neg (by omega)]
 show zL Ik.aaG Ik.ahF [Y U (n:Int)] h=_;unfold zL;rw[e];exact Bh (aAe hn) h
def aN7{n:Nat}(hn:n<20)(h:Hp):jS [Y U (100+(n:Int))] h=D (H (Ik.vI n)) h:=Bh (Ik.aHm hn) h
def aQj(x:V)(h:Hp):abL [x] h=D x h:=by
 rw[ayY];simp only[vvB,seval,aw5,ajP,RI];simp only[bU,bT,vvB,seval,bW]
def aDD(h:Hp):∃ps h' F pl ib cb fb,Ot [.aQ] h=D (X ps 0) h'/\dV h' F ps aeR pl ib cb fb .aQ .aQ (λ_=>False)/\Nw h h'/\∀j,F j->h.next.nat<=j.nat:=by
 obtain⟨k,e1,a⟩:=aE6 h;obtain⟨ps,b,F,pl,ib,cb,fb,e2,a2,e,f2⟩:=aHB k;have n1:=a.next;have i:=aQj (iV 0) b;have c:∀g,aZ 2 .aQ g=D (Y U 0) g:=λg=>rfl;have f:decide ((0:Int)<0)=false:=by decide
 refine⟨ps,b,F,pl,ib,cb,fb,?_,a2,a.trans e,λj q=>by have:=f2 j q;omega⟩;rw[aqN];simp(disch:=omega)only[vvB,seval,aj7,arR,adr,adq,aqm,e1,e2,i,fM,aIe,adY,ado,c,f,afl];simp only[bU,bT,vvB,seval,bW]<;>rfl
abbrev ahH(o:Out):Prop:=aX Tryz.prog [.tmp 4] (λr _=>r=K true) o
def ahH.ret{fr:Go.Vm.F}{h:Hp}(a:fr.get (d! 4)=some (K true)):ahH (.ret fr h):=aX.ret (r:=K true) (qT1 a) rfl
def aPK(h:Hp):bP 9 [H []] 1 [(0,1,(H [36,115,101,101,110]))] h=D (.slice h.next 0 1 (.kn 1)) (h.new (O (N 9 true) [H gZ])):=(rfl)
def rw1(h:Hp):Rws (λj=>j=h.next) (flat eu) 1 (h.new (O (N 3 true) [iV 1])) (.slice h.next 0 1 (.kn 1)) [(1:Int)]:=aND 1 h
def rwK(h:Hp):Rws (λj=>j=h.next) (flat jT) 1 (h.new (O (N 9 true) [H gZ])) (.slice h.next 0 1 (.kn 1)) [gZ]:=Kn.rws (c:=jT) (l:= [gZ]) (cp:=.kn 1) (sz:=1) (Kn.new _ _) (λ_=>rfl) (λ_ _ _ _ e=>by cases e;exact z! _)
def akW{T:Nat->List Nat×List (List Nat)}{Pk:Pos->Prop}{vk:V}(f:FilG T n A)(hn:n<=100)(t:∀k,(T k).2.length<=1)(a:dV h F ps A pl ib cb fb vm vl I)(o:dD 0 I jo 40 8 h vm A.mails){u:Pos->Prop}(r:Rws u (flat eu) 1 h v [(1:Int)])
  (rk:Rws Pk (flat jT) 1 h vk (T n).2) (hk:∀k∈(T n).2,aez k=true) (ht:(T n).1.length<=1000) (q:∀h,wP [H (T n).1,H [105,110,45,114,101,112,108,121,45,116,111]] h=D (H []) h):
  ∃s h' A' p b c I',vO [X ps 0,v,vk,Y U 0,H (T n).1] h=D s h'/\FilG T (n+1) A'/\dV h' p ps A' pl ib cb fb b c I'/\dD 0 I' jo 40 8 h' b A'.mails/\Ch F h h'/\∀j,p j->F j\/h.next.nat<=j.nat:=by
 obtain⟨i,s,h',p,b,c,I',e,a',o',w,f'⟩:=awo a o (f.app hn t) r (at_:=0) (by omega) rk hk (t n) (by omega) q;exact⟨s,h',_,p,b,c,I',e,f.snoc ht i,a',o',w,f'⟩
def aGV(l:List Bool)(n j:Nat):av1 l n j=vT++AZ l n++ [13,10,97,32,79,75,32,100,111,110,101,13,10,42,32,83,69,65,82,67,72]++noT l n++ [13,10,98,32,79,75,32,100,111,110,101,13,10,42,32,83,69,65,82,67,72]++Ba l n++ [13,10,99,32,79,75,32,100,111,110,101,13,10,42,32,83,69,65,82,67,72,32]++eX (j+1)++ [13,10,100,32,79,75,32,100,111,110,101,13,10,42,32,83,69,65,82,67,72,13,10,101,32,79,75,32,100,111,110,101,13,10]:=by
 have e1:iI [32] [eX (j+1)]= [32]++eX (j+1):=by simp[iI]
 have e2:∀c:Nat,okT [c] []= [c,32,79,75,32,100,111,110,101,13,10]:=λc=>rfl;unfold av1;simp only[e1,e2,List.append_assoc,List.cons_append,List.nil_append,h!]
def JV(R:Rws P (flat amM) 1 d v l)(hm:m<256)(hG:Ik.aI<=d.next.nat):∃h',wo [v,Y .u8 (m:Int)] d=D (K true) h':=by
 have J:=λh=>R.len h;rw[abK]
 suffices T:ahH (qm (T.set (some (Y .u8 (m:Int))) (d! 1) (T.set (some v) (d! 0) T.nil)) d) by
  obtain⟨r,h',e,rfl⟩:=T;exact⟨h',e⟩
 by_cases h0:l.length=0
 ·rw[h0]at J;simp(disch:=omega)only[vvB,seval,qm,afk,rG,zG,J,Int.natCast_zero,decide_true,avX];exact ahH.ret (qK0)
 have e0:((l.length:Int)=0)=False:=eq_false (by omega);by_cases a5:20<l.length
 ·have M:((l.length:Int)>20)=True:=eq_true (by omega);simp(disch:=omega)only[vvB,seval,qm,afk,rG,zG,J,e0,M,decide_true,decide_false,avX];exact ahH.ret (qK0)
 have M:((l.length:Int)>20)=False:=eq_false (by omega);obtain⟨ps,h1,F,pl,ib,cb,fb,e1,a1,c1,f1⟩:=aDD d;obtain⟨h2,aj,c2,-⟩:=mkW h1 (O (N 3 true) [iV 1]);have r2:Rws (λj=>j=h1.next) (flat eu) 1 h2 (.slice h1.next 0 1 (.kn 1)) [(1:Int)]:=by rw[aj];exact rw1 h1
 have o1:dD 0 (λ_=>False) jo 40 8 h1 .aQ aeR.mails:=dD.nil _ _ _ _ _ _;have hT:=ag1 l;obtain⟨rr,h3,A3,F3,y,x,I3,Q,f3,a3,o3,c3,t⟩:=akW (T:=tOf l) FilG.nil (by omega) hT (a1.nw c2) (o1.nw dG c2) r2 (Rws.aQ (λ_=>False) (flat jT) 1 h2) (λk hk=>by cases hk) (by show Ik.jI.length<=1000;decide) (λh=>Ik.aF0 h);have aq:vO [X ps 0,.slice h1.next 0 1 (.kn 1),.aQ,Y U 0,H [103,111,110,101]] h2=D rr h3:=Q;have i:=c1.trans c2;have a7:=i.next;have n2:=c2.next;have ao:Nw d h3:=i.then c3 λj hj q=>by have:=f1 j q;omega
 have av:∀j,F3 j->d.next.nat<=j.nat:=λj q=>(t j q).elim (f1 j) λl=>by omega
 simp(disch:=omega)only[vvB,seval,qm,afk,rG,Lh,Le,Ld,Lc,adw,J,e0,M,decide_true,decide_false,e1,fM,amK,<-aj,aq];refine Oc.then (dW (n:=l.length) (λ μ fr g=>∃(k:Nat) (A:Acc) (F:Pos->Prop) (vm vl:V) (I:Pos->Prop),fr.get (d! 0)=some v/\fr.get (d! 1)=some (Y .u8 (m:Int))/\fr.get (d! 5)=some (X ps 0)/\fr.get (d! 6)=some (H (AZ l k))/\fr.get (d! 7)=some (H (noT l k))/\fr.get (d! 8)=some (H (Ba l k))/\fr.get (d! 9)=some (Y U (k:Int))/\k+μ=l.length/\
   FilG (tOf l) (k+1) A/\dV g F ps A pl ib cb fb vm vl I/\dD 0 I jo 40 8 g vm A.mails/\Nw d g/\∀j,F j->d.next.nat<=j.nat)
  (A:=λfr g=>∃(A:Acc) (F:Pos->Prop) (vm vl:V) (I:Pos->Prop),fr.get (d! 0)=some v/\fr.get (d! 1)=some (Y .u8 (m:Int))/\fr.get (d! 5)=some (X ps 0)/\fr.get (d! 6)=some (H (AZ l l.length))/\fr.get (d! 7)=some (H (noT l l.length))/\fr.get (d! 8)=some (H (Ba l l.length))/\
   FilG (tOf l) (l.length+1) A/\dV g F ps A pl ib cb fb vm vl I/\Nw d g/\∀j,F j->d.next.nat<=j.nat) (B:=λ_ _=>False) (by rw[dP];omega) ?_ ?_) ?_ ?_
 ·exact⟨0,A3,F3,y,x,I3,qK0,qK0,qK0,qK1,qK1,qK1,qK1,by omega,f3,a3,o3,ao,av⟩
 ·rintro μ fr g ⟨k,A,F,vm,vl,I,E,f1,S,f6,f7,f8,f9,hk,z,a,o,c,hF⟩;by_cases hz:μ=0
  ·have Z:k=l.length:=by omega
   subst Z;simp(disch:=omega)only[vvB,seval,rP,rF,E,f9,J];exact⟨rfl,A,F,vm,vl,I,qK2 E,qK2 f1,qK2 S,qK2 f6,qK2 f7,qK2 f8,z,a,c,hF⟩
  ·have Z:k<l.length:=by omega
   obtain⟨b,hb⟩:∃b,l[k]?=some b:=⟨_,v! Z⟩
   have u:FC l k=b:=by unfold FC;rw[List.getD_eq_getElem?_getD,hb];rfl
   obtain⟨ii,q,cs,ix,ex,-,hi,-,ld,-⟩:=R.elt hb;obtain rfl:cs=amM b:=ex;have LB:∀g',Nw d g'->aG (X ii q) g'=D (K b) g':=λg' c'=>by
    have:=ld g' (c'.get ii hi λq=>q) 0 (K b) rfl;rwa[Nat.add_zero]at this
   have yl:=atL (l:=l) (n:=k) (by omega);have L:tOf l (k+1)=(Ik.nN k,if b=true then [gZ] else []):=by show(Ik.nN k,_)=_;rw[u]
   have dH:=λh=>aN7 (n:=k) (by omega) h;have f:∀g,aJ .add .none (Y U 100) (Y U (k:Int)) g=D (Y U (100+(k:Int))) g:=λg=>pK (by omega) (by omega);have A1:∀g,aJ .add .none (H [83,117,98,106,101,99,116,58,32,115]) (H (Ik.vI k)) g=D (H ([83,117,98,106,101,99,116,58,32,115]++Ik.vI k)) g:=λg=>dX (by simp[Ik.vI]);have A2:∀g,aJ .add .none (H ([83,117,98,106,101,99,116,58,32,115]++Ik.vI k)) (H [13,10,13,10,120]) g=D (H (Ik.nN k)) g:=λg=>dX (by simp[Ik.vI]);have C:∀g,aJ .add .none (Y U (k:Int)) (Y U 1) g=D (Y U ((k:Int)+1)) g:=λg=>pK (by omega) (by omega);have am:∀g,aJ .add .none (Y U (k:Int)) (Y U 2) g=D (Y U ((k:Int)+2)) g:=λg=>pK (by omega) (by omega);have d1:∀g,jS [Y U ((k:Int)+1)] g=D (H (eX (k+1))) g:=λg=>aG2 (n:=k+1) (by omega) g;have d2:∀g,jS [Y U ((k:Int)+2)] g=D (H (eX (k+2))) g:=λg=>aG2 (n:=k+2) (by omega) g;have l1:=(mJ (n:=k+1) (by omega)).1;have l2:=(mJ (n:=k+2) (by omega)).1;have nc:=c.next;have G:(tOf l (k+1)).1.length<=1000:=by rw[L];simp[Ik.nN,Ik.vI]
   have ak:∀h,wP [H (tOf l (k+1)).1,H [105,110,45,114,101,112,108,121,45,116,111]] h=D (H []) h:=λh=>by rw[L];exact Ik.aNu (by omega) h
   cases b with
   |false=>
    obtain⟨y1,y2,y3⟩:=aNs u;obtain⟨g2,w,p,-⟩:=mkW g (O (N 3 true) [iV 1]);have ah:Rws (λj=>j=g.next) (flat eu) 1 g2 (.slice g.next 0 1 (.kn 1)) [(1:Int)]:=by rw[w];exact rw1 g
    obtain⟨rr,g3,A3,F3,y,x,I3,Q,f3,a3,o3,c3,t⟩:=akW (T:=tOf l) z (by omega) hT (a.nw p) (o.nw dG p) ah (vk:=.aQ) (Pk:=λ_=>False) (by rw[L];exact Rws.aQ _ _ _ _) (λk hk=>by rw[L]at hk;cases hk) G ak;rw[L]at Q;have s:Nw d g3:=(c.trans p).then c3 λj hj q=>by have:=hF j q;omega
    have aM:=(c.trans p).next;have S1:∀g,aJ .add .none (H (noT l k)) (H [32]) g=D (H (noT l k++ [32])) g:=λg=>dX (by simp;omega);have S2:∀g,aJ .add .none (H (noT l k++ [32])) (H (eX (k+1))) g=D (H (noT l (k+1))) g:=λg=>by rw[y2];exact dX (by simp;omega)
    have L1:=LB g c;have L2:=LB g3 s;simp(disch:=omega)only[vvB,seval,rP,rF,mP,yt,yj,yh,yg,JE,E,S,f6,f7,f8,f9,J,ix,L1,amK,<-w,f,dH,A1,A2,Q,L2,S1,C,d1,S2];exact⟨μ - 1,by omega,k+1,A3,F3,y,x,I3,qK2 E,qK2 f1,qK2 S,by rw[y1];simp only[vvB,seval,f6],qK0,by rw[y3];simp only[vvB,seval,f8],qK1,by omega,f3,a3,o3,s,λj q=>(t j q).elim (hF j) λl=>by omega⟩
   |true=>
    obtain⟨y1,y2,y3⟩:=aNr u;obtain⟨W,ai,ap,-⟩:=mkW g (O (N 9 true) [H gZ]);have aR:Rws (λj=>j=g.next) (flat jT) 1 W (.slice g.next 0 1 (.kn 1)) [gZ]:=by rw[ai];exact rwK g
    obtain⟨g2,w,p,-⟩:=mkW W (O (N 3 true) [iV 1]);have ah:Rws (λj=>j=W.next) (flat eu) 1 g2 (.slice W.next 0 1 (.kn 1)) [(1:Int)]:=by rw[w];exact rw1 W
    have i:=ap.trans p;obtain⟨rr,g3,A3,F3,y,x,I3,Q,f3,a3,o3,c3,t⟩:=akW (T:=tOf l) z (by omega) hT (a.nw i) (o.nw dG i) ah (by rw[L];exact aR.nw (aN _) p) (λk hk=>by rw[L]at hk;simp at hk;subst hk;decide) G ak;rw[L]at Q;have s:Nw d g3:=(c.trans i).then c3 λj hj q=>by have:=hF j q;omega
    have aM:=(c.trans i).next;have S1:∀g,aJ .add .none (H (AZ l k)) (H [32]) g=D (H (AZ l k++ [32])) g:=λg=>dX (by simp;omega);have S2:∀g,aJ .add .none (H (AZ l k++ [32])) (H (eX (k+1))) g=D (H (AZ l (k+1))) g:=λg=>by rw[y1];exact dX (by simp;omega)
    have S3:∀g,aJ .add .none (H (Ba l k)) (H [32]) g=D (H (Ba l k++ [32])) g:=λg=>dX (by simp;omega);have S4:∀g,aJ .add .none (H (Ba l k++ [32])) (H (eX (k+2))) g=D (H (Ba l (k+1))) g:=λg=>by rw[y3];exact dX (by simp;omega)
    have L1:=LB g c;have L2:=LB g3 s;simp(disch:=omega)only[vvB,seval,rP,rF,mP,yt,yj,JH,yh,yg,JG,JF,E,S,f6,f7,f8,f9,J,ix,L1,aPK,<-ai,amK,<-w,f,dH,A1,A2,Q,L2,S1,S3,C,am,d1,d2,S2,S4];exact⟨μ - 1,by omega,k+1,A3,F3,y,x,I3,qK2 E,qK2 f1,qK2 S,qK0,by rw[y2];simp only[vvB,seval,f7],qK0,qK1,by omega,f3,a3,o3,s,λj q=>(t j q).elim (hF j) λl=>by omega⟩
 ·rintro fr g ⟨A,F,vm,vl,I,E,f1,S,f6,f7,f8,z,a,c,hF⟩;have hn:1<=l.length/\l.length<=20:=⟨by omega,by omega⟩
  obtain⟨m0,aE,az,ay,aB,aL,sc⟩:=z.gone;obtain⟨W,F1,bb,a9,I1,e4,a4,c4,f4⟩:=awn a (z.small (by omega) hT) z.logged aE ay aB (by rw[z.ents];omega) (by rw[z.clock];omega) (by have:=z.oct;omega) (by rw[aL];show Ik.jI.length<1000000000;decide);rw[az]at e4;have ar:wQ [X ps 0,Y U 1] g=D (iV 0) W:=e4;obtain⟨bx,hC,ax⟩:=sc.aOb hn.2 hT;have n4:=c4.next;have nc:=c.next;obtain⟨pc,im,g2,e5,we,-⟩:=aP5 a4 hC (by omega);rw[ax]at we;obtain⟨F2,J2,pl2,a6,a0,a2,bc,ba,bd,I2,w2,-,c5⟩:=we;have n5:=c5.next;obtain⟨j,hj⟩:∃j,j=m % l.length:=⟨_,rfl⟩
  have aD:j<l.length:=by rw[hj];exact Nat.mod_lt _ (by omega)
  have cv:∀g,jk U (Y .u8 (m:Int)) g=D (Y U (m:Int)) g:=λg=>Um (by omega) (by omega);have rm:∀g,aJ .rem .none (Y U (m:Int)) (Y U (l.length:Int)) g=D (Y U (j:Int)) g:=λg=>by
   rw[akx (by omega),hj];congr 2
  obtain⟨a8,al⟩:=aGe (pc:=pc) (im:=im) (ps:=ps) sc hn aD;obtain⟨g3,e6,-⟩:=aFV w2 (by omega) (aJz (by omega)) al;have f:∀g,aJ .add .none (Y U 100) (Y U (j:Int)) g=D (Y U (100+(j:Int))) g:=λg=>pK (by omega) (by omega);have dH:=λh=>aN7 (n:=j) (by omega) h;have A1:∀g,aJ .add .none (H [97,32,83,69,65,82,67,72,32,83,69,69,78,13,10,98,32,83,69,65,82,67,72,32,85,78,83,69,69,78,13,10,99,32,85,73,68,32,83,69,65,82,67,72,32,115,101,101,110,13,10,100,32,83,69,65,82,67,72,32,83,85,66,74,69,67,84,32,83]) (H (Ik.vI j)) g=D (H ([97,32,83,69,65,82,67,72,32,83,69,69,78,13,10,98,32,83,69,65,82,67,72,32,85,78,83,69,69,78,13,10,99,32,85,73,68,32,83,69,65,82,67,72,32,115,101,101,110,13,10,100,32,83,69,65,82,67,72,32,83,85,66,74,69,67,84,32,83]++Ik.vI j)) g:=λg=>dX (by simp[Ik.vI]);have A2:∀g,aJ .add .none (H ([97,32,83,69,65,82,67,72,32,83,69,69,78,13,10,98,32,83,69,65,82,67,72,32,85,78,83,69,69,78,13,10,99,32,85,73,68,32,83,69,65,82,67,72,32,115,101,101,110,13,10,100,32,83,69,65,82,67,72,32,83,85,66,74,69,67,84,32,83]++Ik.vI j)) (H [13,10,101,32,83,69,65,82,67,72,32,49,58,42,32,78,79,84,32,65,76,76,13,10]) g=D (H (Ik.auf j)) g:=λg=>dX (by simp[Ik.vI]);have yl:=atL (l:=l) (n:=l.length) hn.2;have hd:=(mJ (n:=j+1) (by omega)).1;have d1:∀g,jS [Y U ((j:Int)+1)] g=D (H (eX (j+1))) g:=λg=>aG2 (n:=j+1) (by omega) g;have C:∀g,aJ .add .none (Y U (j:Int)) (Y U 1) g=D (Y U ((j:Int)+1)) g:=λg=>pK (by omega) (by omega);have ex:=aGV l l.length j;obtain⟨s1,aa⟩:∃s1,s1=vT++AZ l l.length:=⟨_,rfl⟩
  obtain⟨s2,ab⟩:∃s2,s2=s1++ [13,10,97,32,79,75,32,100,111,110,101,13,10,42,32,83,69,65,82,67,72]:=⟨_,rfl⟩
  obtain⟨s3,ac⟩:∃s3,s3=s2++noT l l.length:=⟨_,rfl⟩
  obtain⟨s4,ad⟩:∃s4,s4=s3++ [13,10,98,32,79,75,32,100,111,110,101,13,10,42,32,83,69,65,82,67,72]:=⟨_,rfl⟩
  obtain⟨s5,ae⟩:∃s5,s5=s4++Ba l l.length:=⟨_,rfl⟩
  obtain⟨s6,af⟩:∃s6,s6=s5++ [13,10,99,32,79,75,32,100,111,110,101,13,10,42,32,83,69,65,82,67,72,32]:=⟨_,rfl⟩
  obtain⟨s7,ag⟩:∃s7,s7=s6++eX (j+1):=⟨_,rfl⟩
  have q1:s1.length<=100:=by rw[aa,b!];simp;omega
  have q2:s2.length<=200:=by rw[ab,b!];simp;omega
  have q3:s3.length<=300:=by rw[ac,b!];omega
  have q4:s4.length<=400:=by rw[ad,b!];simp;omega
  have q5:s5.length<=500:=by rw[ae,b!];omega
  have q6:s6.length<=600:=by rw[af,b!];simp;omega
  have q7:s7.length<=700:=by rw[ag,b!];omega
  have B1:∀g,aJ .add .none (H [42,32,83,69,65,82,67,72]) (H (AZ l l.length)) g=D (H s1) g:=λg=>by rw[aa];exact dX (by simp;omega)
  have B2:∀g,aJ .add .none (H s1) (H [13,10,97,32,79,75,32,100,111,110,101,13,10,42,32,83,69,65,82,67,72]) g=D (H s2) g:=λg=>by rw[ab];exact dX (by simp;omega)
  have B3:∀g,aJ .add .none (H s2) (H (noT l l.length)) g=D (H s3) g:=λg=>by rw[ac];exact dX (by omega)
  have B4:∀g,aJ .add .none (H s3) (H [13,10,98,32,79,75,32,100,111,110,101,13,10,42,32,83,69,65,82,67,72]) g=D (H s4) g:=λg=>by rw[ad];exact dX (by simp;omega)
  have B5:∀g,aJ .add .none (H s4) (H (Ba l l.length)) g=D (H s5) g:=λg=>by rw[ae];exact dX (by omega)
  have B6:∀g,aJ .add .none (H s5) (H [13,10,99,32,79,75,32,100,111,110,101,13,10,42,32,83,69,65,82,67,72,32]) g=D (H s6) g:=λg=>by rw[af];exact dX (by simp;omega)
  have B7:∀g,aJ .add .none (H s6) (H (eX (j+1))) g=D (H s7) g:=λg=>by rw[ag];exact dX (by omega)
  have B8:∀g,aJ .add .none (H s7) (H [13,10,100,32,79,75,32,100,111,110,101,13,10,42,32,83,69,65,82,67,72,13,10,101,32,79,75,32,100,111,110,101,13,10]) g=D (H (av1 l l.length j)) g:=λg=>by rw[ex,<-aa,<-ab,<-ac,<-ad,<-ae,<-af,<-ag];exact dX (by simp;omega)
  obtain⟨an,aw⟩:∃an,an=av1 l l.length j:=⟨_,rfl⟩
  rw[<-aw]at B8 e6;have au:(an=an)=True:=eq_true rfl;simp(disch:=omega)only[vvB,seval,JD,JC,JB,JA,Jz,E,f1,S,f6,f7,f8,J,ar,e5,cv,rm,f,dH,A1,A2,e6,B1,B2,B3,B4,B5,B6,B7,B8,C,d1,au,decide_true,avX];exact ahH.ret (qK0)
 ·intro fr g q;exact q.elim
end
open Go.Proofs.Tryz
def avD:∀{els:List (List V)},(∀vs∈els,(∃z,vs= [K z])/\vs.length=1)->∃l:List Bool,els=l.map amM
 | [],_=>⟨[],rfl⟩
 |vs::els,h=>by
  obtain⟨⟨z,rfl⟩,-⟩:=h vs (by simp);obtain⟨l,e⟩:=avD (els:=els) λvs a=>h vs (List.mem_cons_of_mem _ a);exact⟨z::l,by rw[e];rfl⟩
def aIA{z:Int}(h:(Lit.int .u8 z).wf=true):∃a:Nat,z=(a:Int)/\a<256:=by
 have b:0<=z/\z<=255:=by
  unfold Lit.wf at h;simp only[C!,decide_eq_true_eq]at h;exact h
 exact⟨z.toNat,by omega,by omega⟩
def walkOfImapSearches{t:Type}{h:TypeId×Value->t}{d:Nat->Bool}{g:Bool}(W:Go.World){r:Reach}{u base:Nat}{v0 v1:Value}{y z:DataW t}{L M:List MemPlace}
  (q:Value.okWide prog W r u 22 v0) (l:DataW.Trod h prog W base d g 22 v0 y L) (s:Value.okWide prog W r u 5 v1) (o:DataW.Trod h prog W base d g 5 v1 z M):
  Calls prog 6 #[v0,v1] W λe x=>e=.returned (.bool true)/\Below W.heap.size W x:=by
 obtain⟨a,len,cap,rfl⟩:=okWide_slice underlying22 q;obtain⟨m,J⟩:=l;obtain⟨Q,rfl,-,-,P⟩:=open_int underlying5 s o;obtain⟨how,rfl,hh⟩:=aIA P;obtain⟨c,v,M',h',els,B,C,E,-,j,-,G⟩:=aD0 underlying22 (n:=1) kR (by omega) (aIS underlying4) J (Seen.empty aI W);obtain rfl:Value.slice a len cap=c:=by simpa[Value.cells]using B
 obtain⟨b,rfl⟩:=avD j;have I:∃i,wo [v,Y .u8 (how:Int)] h'=D (K true) i:=by
  rcases G with⟨rfl,rfl,p⟩|⟨rfl,rfl,p⟩|⟨cap,rfl,rfl,w,f⟩
  ·obtain rfl:b= []:=by simpa using p
   exact JV (Rws.aQ (λ_=>True) _ _ _) hh (by decide)
  ·obtain rfl:b= []:=by simpa using p
   exact JV (Rws.emp (λ_=>True) _ _ _) hh (by decide)
  ·have k:=Kn.new (h0 aI) (O .ro (b.map amM).flatten);have R:=Kn.rws (c:=amM) (sz:=1) (cp:=.kn cap) k (λ_=>rfl) (λ_ _ _ _ e=>by cases e;rw[k!]at f;exact f);rw[k!];exact JV R hh (by rw[bG];decide)
 obtain⟨i,e⟩:=I;exact ayb (cargs:= [_,_]) (args:= [_,_]) ahY func6 kR (c:=codeOf f6) kR E ⟨_,_,C,⟨_,[],gU _ .u8 how,rfl,rfl⟩,rfl⟩ e
end Go.Proofs.Im
