/- Lemmas that the claim's last text uses. No conditions. -/
import Derived.Test.YtpgppmioigacoaaGreatDoorDrAQ
import Derived.Test.YtpgppmioigacoaaGreatDoorDrAP
set_option linter.all false
set_option maxRecDepth 100000
open Nat renaming reduceEqDiff→a!,ble_eq_true_of_le→d!,add_zero→p!,beq_refl→w!,le_refl→z!,ble→A!,zero_add→E!,succ_mul→F!,le_of_lt→G!,mul_le_mul_right→I!,beq→K!,zero_le→Q!,blt_eq→R!
open List renaming getElem?_eq_getElem→b!,mem_of_getElem?→e!,map_cons→g!,mem_append→h!,length_append→i!,length_take→j!,length_map→k!,map_nil→l!,append_assoc→o!,mem_singleton→q!,getElem?_drop→r!,findIdx?_eq_some_iff_getElem→t!,getElem?_map→u!,take_append_of_le_length→y!,getElem?_append_left→B!,drop_eq_getElem_cons→C!,length_filter_le→H!,filter_eq_self→J!,take_length→L!,length_cons→M!,append_nil→N!,drop_drop→O!,length→P!
open Go.Vm.Pos renaming of→c!
open Go.Proofs.Tryz renaming prog→n!
open Go.Vm.Out renaming nor→v!,ret→D!
open Int renaming reduceEq→x!
open Go.Vm.V renaming int→Y,ptr→X,bool→K,str→H
open Go.IntKind renaming i64→U
open Go.Vm.Ob renaming cells→O
open Go.Vm.Wr renaming rw→N
open Go.Vm.R renaming ok→D
noncomputable section
open Go Go.Vm Go.Ln Go.Proofs Go.Im
namespace Go.Im
theorem VU(t:TypeId)(a b c:List Nat)(h:Hp):bY t [H [],H [],H []] 3 [(0,1,H a),(1,1,H b),(2,1,H c)] h=D (.slice h.next 0 3 (.kn 3)) (h.new (O (N t true) [H a,H b,H c])):=(rfl)
theorem uO{n:Nat}(a:n<100):(iq n).length<=2/\(∀c∈iq n,c<256)/\iq n≠ []:=by
 unfold iq;split
 ·rename_i h;have:n<10:=by simpa[R!]using h
  exact⟨by simp,by simp;omega,by simp⟩
 ·exact⟨by simp,by simp;omega,by simp⟩
def lineS(l:List (List Nat)):List Nat:=dN [32] l++ [13,10]
abbrev aq4:List Nat:= [42,32,70,76,65,71,83,32,40,92,65,110,115,119,101,114,101,100,32,92,70,108,97,103,103,101,100,32,92,68,101,108,101,116,101,100,32,92,83,101,101,110,32,92,68,114,97,102,116,41]
abbrev aeN:List Nat:= [69,88,73,83,84,83]
abbrev alM:List Nat:= [42,32,48,32,82,69,67,69,78,84]
abbrev ab5:List Nat:= [42,32,79,75,32,91,85,73,68,86,65,76,73,68,73,84,89,32]
abbrev ajj:List Nat:= [42,32,79,75,32,91,85,73,68,78,69,88,84,32]
abbrev aqI:List Nat:= [42,32,79,75,32,91,72,73,71,72,69,83,84,77,79,68,83,69,81,32]
abbrev roS:List Nat:= [82,69,65,68,45,79,78,76,89]
abbrev rwS:List Nat:= [82,69,65,68,45,87,82,73,84,69]
def lK(n:Nat)(valid next clock:Int):List Nat:=
 lineS [aq4]++(lineS [[42],iq n,aeN]++(lineS [alM]++(lineS [ab5++iq valid.toNat++ [93]]++(lineS [ajj++iq next.toNat++ [93]]++lineS [aqI++iq clock.toNat++ [93]]))))
def dJ(A:Acc)(box:Int):Int×Int×List (Int×Int×Int):=(box,acM (Wn A.aP box),(Wn A.aP box).map thK)
structure CanBox (A:Acc) (k:Nat) (b:Bx):Prop where
 small:A.Small
 top:TopB A.boxes
 at_:A.boxes[k]?=some b
 named:tX A.boxes iL=some b
 sorted:(Wn A.aP b.id).Pairwise λx y=>x.1<y.1
 few:(Wn A.aP b.id).length<50
 valid:0<=b.valid/\b.valid<100
 next:0<=b.next/\b.next<100
 clock:A.clock<100
theorem CanBox.has{A:Acc}{k:Nat}{b:Bx}(c:CanBox A k b):(A.boxes.any λx=>decide (x.id=b.id))=true:=
 List.any_eq_true.2 ⟨b,e! c.at_,decide_eq_true rfl⟩
end Go.Im
namespace Go.Proofs.Im
section
variable{h h' g h0:Hp}{P F I J Z S:Pos->Prop}{ps pl ib p pv ir pc im a0:Pos}{cb:Cap}{fb uid only:Bool}{v vm vl vv vw:V}{st:Sn}{L:List V}{s:List Nat}{w:Wds}{o:Ob}{k:Nat}{b:Bx}{bb:Nat}
theorem an7(h:Hp):∃h',Ur [Y U 0] h=D (anV 0 [] false false false) h'/\Nw h h':=by
 obtain⟨d,a⟩:∃d,d=h.new (O (N tA true) zAn):=⟨_,rfl⟩
 obtain⟨e,c⟩:∃e,e=d.put h.next (some (O (N tA true) (anL 0 [] false false false))):=⟨_,rfl⟩
 have f:Kn d h.next (O (N tA true) zAn):=by rw[a];exact Kn.new _ _
 have i:aT 5 (X h.next 0) (anV 0 [] false false false) d=D V.undef e:=by rw[c];exact f.stN rfl rfl
 have j:Kn e h.next (O (N tA true) (anL 0 [] false false false)):=by rw[c];exact f.put _
 rw[ate];simp(disch:=omega)only[vvB,a!,reduceCtorEq,↓reduceIte,ad1,agR,agQ,agP,<-a,aIx,i];refine⟨e,by simp only[aU,bW,vvB,a!,reduceCtorEq,↓reduceIte,ni,j.ldN (n:=5) rfl,bZ],?_⟩;rw[c,a];exact(Nw.new h _).put (z! _) _
theorem keepA{L a:List V}(c:Stp (OfB ir 5 L) h (OfB ir 5 a) h')(d:Kn h a0 o)(e:¬OfB ir 5 L a0):Kn h' a0 o/\¬OfB ir 5 a a0:=
 ⟨d.ch c.ch e,λo=>(c.sub _ o).elim e λl=>by have:=d.2;omega⟩
theorem Rq.Tt(q:Rq bb h0 Z h pc im ps ir uid w s st L vw P F J pl ib cb fb vm vl vv I)(c:Ch (λj=>j=a0) h h')(i:¬OfB ir 5 L a0)(l:¬Ft F J pc im a0)(hb:h0.next.nat<=a0.nat):Rq bb h0 Z h' pc im ps ir uid w s st L vw P F J pl ib cb fb vm vl vv I where
 bd:=q.bd.chO c λj o e=>i (e▸o)
 l0:=q.l0
 l1:=q.l1
 l3:=q.l3
 l4:=q.l4
 ws:=q.ws.ch c λj _ p=>⟨p,λe=>by have a:=(q.old j p).1;have m:=q.hbb;rw[e]at a;omega⟩
 wd:=q.wd.ch c λj f e=>l (e▸f)
 dis:=q.dis
 old:=q.old
 hbb:=q.hbb
 ob:=q.ob
 foot:=q.foot
 chz:=q.chz.trans c λj d e=>by rw[e]at d;omega
theorem aoC(q:Rq bb h0 Z h pc im ps ir uid w s st L vw P F J pl ib cb fb vm vl vv I)(only:Bool)(bp:w.len=1)(ce:mO w= [iL])(cd:DI w=false)(C:CanBox st.acc k b)(cB:s.length<=100000):
  ∃h',um [X pc 0,X ir 0,K only] h=D (anV 0 (if only=true then roS else rwS) false true false) h'/\
   tZ bb h0 Z vw P h' pc im ps ir uid w (s++lK (Wn st.acc.aP b.id).length b.valid b.next st.acc.clock) {st with only:=only,vw:=some (dJ st.acc b.id)}:=by
 obtain⟨h1,bl,c1,k1⟩:=mkW h (O (N tA true) zAn);have q1:=q.nw c1;have co:¬OfB ir 5 L h.next:=λo=>by have:=(o.from q.bd _).2;omega
 have a1:¬Ft F J pc im h.next:=λo=>by have:=q.wd.lt _ o;omega
 have e2:=aqE (n:=1) q1.bd q1.l3 q1.ws (by omega);obtain⟨r2,h2,e2,c2,hN⟩:=e2;have bi:aae [X ir 0,Y U 1] h1=D r2 h2:=e2;obtain⟨v,rfl,ov,aL⟩:∃v,r2=.tuple (.cons v (.cons (K true) .nil))/\Ow 0 h2 9 1 v 1 ([iL].map H)/\∀j,bH v=some j->h1.next.nat<=j.nat:=by
  rcases hN with⟨hL,-⟩|⟨-,v,rfl,ov,aL⟩
  ·rw[cd]at hL;cases hL
  ·rw[bp,ce]at ov;exact⟨v,by rw[decide_eq_true bp],ov,aL⟩
 obtain⟨iv,fv,hv,kv,cR⟩:∃iv fv,v=.slice iv 0 1 (.un 1)/\Kn h2 iv (O (N 9 fv) [H iL])/\h1.next.nat<=iv.nat:=by
  rcases ov.is with⟨h0,_⟩|⟨i,e,hb,hi,f,hg⟩
  ·omega
  ·exact⟨i,f,e,⟨hg,hi⟩,aL i (by rw[e];rfl)⟩
 have ix:∀g,bJ 1 v (Y U 0) g=D (X iv 0) g:=λg=>by rw[hv];rfl
 have aq:Nw h1 h2:=c2;have q2:=q1.nw aq;have k2:=k1.nw aq;have n1:=c1.next;have n2:=aq.next;have aM:=q.wd.con.2;have cQ:=q.wd.map.2;obtain⟨d,z⟩:∃d,d=({st with only:=false,vw:=none}:Sn):=⟨_,rfl⟩
 have S3:=q2.wd.con.st (q:=1) (y:=.bP) ⟨rfl,rfl⟩ (by simp);have bg:aT 1 (X pc 1) .bP h2=D V.undef (h2.put pc (some (O (N tCn true) [K st.inn,.bP,K st.only,iV st.cnt,.map im]))):=S3;obtain⟨h4,aD⟩:∃h4,h4=h2.put pc (some (O (N tCn true) [K d.inn,.bP,K d.only,iV d.cnt,.map im])):=⟨_,rfl⟩
 have S4:aT 1 (X pc 2) (K false) (h2.put pc (some (O (N tCn true) [K st.inn,.bP,K st.only,iV st.cnt,.map im])))=D V.undef h4:=by
  rw[(q2.wd.con.put (O (N tCn true) [K st.inn,.bP,K st.only,iV st.cnt,.map im])).st (q:=2) (y:=K false) ⟨rfl,rfl⟩ (by simp),aew,aD,z];rfl
 have w4:World h4 pc im ps d F (λ_=>False) pl ib cb fb vm vl .bP I:=by
  rw[aD];exact q2.wd.acT (by rw[z]) (by rw[z];exact⟨rfl,λ_ q=>q⟩) λ_ q=>q.elim
 have c4:Ch (λj=>j=pc) h2 h4:=by rw[aD];exact Ch.put _ _ rfl
 have q4:=q2.turn w4 c4 (λj e=>.inr (.inr (.inl e))) λj f=>by
  rcases f with f|f|f|f
  ·exact .inl (.inl f)
  ·exact f.elim
  ·exact .inl (.inr (.inr (.inl f)))
  ·exact .inl (.inr (.inr (.inr f)))
 have n4:=c4.next;have k4:=k2.ch c4 λe=>by rw[<-e]at aM;omega
 have cm:=kv.ch c4 λe=>by rw[<-e]at aM;omega
 have a:d.acc=st.acc:=by rw[z]
 have V4:=cm.ld (q:=0) (x:=H iL) rfl;have R1:∀{h:Hp} {s:List Nat} {st:Sn} {L:List V} {F J I:Pos->Prop} {pl ib:Pos} {cb:Cap} {fb:Bool} {vm vl vv:V},Rq bb h0 Z h pc im ps ir uid w s st L vw P F J pl ib cb fb vm vl vv I->aF (X ir 1) h=D (X ps 0) h:=λq=>q.kr.ld q.l1;obtain⟨h5,e5,c5⟩:=aAQ q4.wd.acc (by rw[a];exact C.small) (by rw[a];exact C.top) q4.kr q4.l1 (by rw[a];exact C.named);have q5:=q4.nw c5;have k5:=k4.nw c5;have n5:=c5.next;obtain⟨pv,h6,cz,l6,e6,vg,c6,bm⟩:=aCJ q5.wd.acc (by rw[a];exact C.small) (box:=b.id) (by rw[a];exact C.sorted) (by rw[a];exact C.few) (by rw[a];exact C.has);rw[a]at vg bm;have n6:=c6.next;obtain⟨E,r⟩:∃E,E=({st with only:=only,vw:=some (dJ st.acc b.id)}:Sn):=⟨_,rfl⟩
 have w6:=q5.wd.ch c6 λ_ _ q=>q;have S7:aT 1 (X pc 1) (X pv 0) h6=D V.undef (h6.put pc (some (O (N tCn true) [K d.inn,X pv 0,K d.only,iV d.cnt,.map im]))):=w6.con.st (q:=1) (y:=X pv 0) ⟨rfl,rfl⟩ (by simp);obtain⟨h8,aE⟩:∃h8,h8=h6.put pc (some (O (N tCn true) [K E.inn,X pv 0,K E.only,iV E.cnt,.map im])):=⟨_,rfl⟩
 have S8:aT 1 (X pc 2) (K only) (h6.put pc (some (O (N tCn true) [K d.inn,X pv 0,K d.only,iV d.cnt,.map im])))=D V.undef h8:=by
  rw[(w6.con.put (O (N tCn true) [K d.inn,X pv 0,K d.only,iV d.cnt,.map im])).st (q:=2) (y:=K only) ⟨rfl,rfl⟩ (by simp),aew,aE,r,z];rfl
 have cc:=vg.vwr;have w8:World h8 pc im ps E F (λj=>h5.next.nat<=j.nat/\j.nat<h6.next.nat) pl ib cb fb vm vl (X pv 0) I:=by
  rw[aE];exact w6.acT (by rw[r,a]) (by rw[r];exact⟨pv,cz,l6,rfl,cc,bm⟩) λj q=>⟨λf=>by have:=q5.wd.acc.lt j f;omega,λe=>by rw[e]at q;omega,λe=>by rw[e]at q;omega⟩
 have ar:Ch (λj=>j=pc) h5 h8:=by rw[aE];exact c6.ch.trans (Ch.put (S:=λj=>j=pc) _ _ rfl) λ_ _ q=>q
 have q8:=q5.turn w8 ar (λj e=>.inr (.inr (.inl e))) λj f=>by
  rcases f with f|f|f|f
  ·exact .inl (.inl f)
  ·exact .inr f.1
  ·exact .inl (.inr (.inr (.inl f)))
  ·exact .inl (.inr (.inr (.inr f)))
 have k8:=k5.ch ar λe=>by rw[<-e]at aM;omega
 have u:E.acc=st.acc:=by rw[r]
 have n8:=ar.next;obtain⟨h9,e9,c9⟩:=aDk q8.wd.acc (by rw[u];exact C.small) (by rw[u];exact C.top) q8.kr q8.l1 (by rw[u];exact C.at_);obtain⟨Q,aa⟩:∃Q,Q=h9.new (O (N tBx true) (fF b)):=⟨_,rfl⟩
 have bf:aT 6 (X h9.next 0) (.agg (V.ofList (fF b))) (h9.new (O (N tBx true) [(Y U 0),(H []),(Y U 0),(Y U 0),(Y U 0),(Y U 0)]))=D V.undef Q:=by rw[aa];exact iT (V.dO _) rfl rfl
 have ao:Nw h9 Q:=by rw[aa];exact Nw.new _ _
 have br:Kn Q h9.next (O (N tBx true) (fF b)):=by rw[aa];exact Kn.new _ _
 have cs:=(q8.nw c9).nw ao;have cf:=(k8.nw c9).nw ao;have n9:=c9.next;have cS:=ao.next;have bE:¬OfB ir 5 L h9.next:=λo=>by have:=(o.from (q8.nw c9).bd _).2;omega
 obtain⟨cV,cK,cE,au,a2,bR⟩:=cs.say (el:=9) [aq4] (n:=1) rfl (by omega) (by decide) (by decide) (.inl (by omega)) (by simp[dN];omega);simp only[g!,l!]at au;obtain⟨cg,bv⟩:=keepA bR cf co;obtain⟨bs,bL⟩:=keepA bR br bE;have ac:=a2.wd.view;rw[r]at ac;obtain⟨cT,cD,cn,ca,b1,bn⟩:=ac;cases ca;have be:=a2.wd.con.ld (q:=1) (x:=X pv 0) rfl;have b9:cn.length=(Wn st.acc.aP b.id).length:=by have:=congrArg P! bn;simpa[dJ]using this
 have cA:=C.few;obtain⟨cU,b7,bh,cp,ap⟩:=acX b1 (by omega);have a8:=acS (n:=(Wn st.acc.aP b.id).length) (by omega);have aR:=cp.len b7;rw[k!,b9]at aR;have ct:=a2.nw ap;have b3:=uO (n:=(Wn st.acc.aP b.id).length) (by omega);obtain⟨cW,cL,cF,av,cu,bS⟩:=ct.say (el:=9) [[42],iq (Wn st.acc.aP b.id).length,aeN] (n:=3) rfl (by omega) (by simp[iG];omega) (by
  intro t G;simp at G;rcases G with rfl|rfl|rfl
  ·decide
  ·exact b3.2.1
  ·decide) (.inr (by simp[dN])) (by simp[dN];omega)
 simp only[g!,l!]at av;obtain⟨ci,bw⟩:=keepA bS (cg.nw ap) bv;obtain⟨bt,bM⟩:=keepA bS (bs.nw ap) bL;obtain⟨cX,cM,cG,aw,cv,bX⟩:=cu.say (el:=9) [alM] (n:=1) rfl (by omega) (by decide) (by decide) (.inl (by omega)) (by simp[dN];omega);simp only[g!,l!]at aw;obtain⟨cj,bx⟩:=keepA bX ci bw;obtain⟨ak,bN⟩:=keepA bX bt bM;have aj:=C.valid;have bo:=C.next;have b8:=C.clock;have bk:=C.small.clock;have a9:=amj aj.1 aj.2;have a6:=ak.ld (q:=3) (x:=iV b.valid) rfl;have b4:=uO (n:=b.valid.toNat) (by omega);have Sa:∀(x y:List Nat) (g:Hp),x.length+y.length<1000->aJ .add .none (H x) (H y) g=D (H (x++y)) g:=λx y g hl=>kz (by omega);have a3:=λg=>Sa ab5 (iq b.valid.toNat) g (by simp;omega);have ag:=λg=>Sa (ab5++iq b.valid.toNat) [93] g (by simp;omega);obtain⟨cY,cN,cH,ax,cw,b0⟩:=cv.say (el:=9) [ab5++iq b.valid.toNat++ [93]] (n:=1) rfl (by omega) (by simp[iG];omega) (by
  intro t G;simp only[q!]at G;subst G;intro c m;rw[h!,h!]at m;rcases m with(m|m)|m
  ·revert c;decide
  ·exact b4.2.1 c m
  ·revert c;decide) (.inl (by omega)) (by simp[dN];omega)
 simp only[g!,l!]at ax;obtain⟨ck,bz⟩:=keepA b0 cj bx;obtain⟨bu,cC⟩:=keepA b0 ak bN;have ba:=amj bo.1 bo.2;have a7:=bu.ld (q:=4) (x:=iV b.next) rfl;have b5:=uO (n:=b.next.toNat) (by omega);have a4:=λg=>Sa ajj (iq b.next.toNat) g (by simp;omega);have ah:=λg=>Sa (ajj++iq b.next.toNat) [93] g (by simp;omega);obtain⟨c0,cP,cI,ay,af,cq⟩:=cw.say (el:=9) [ajj++iq b.next.toNat++ [93]] (n:=1) rfl (by omega) (by simp[iG];omega) (by
  intro t G;simp only[q!]at G;subst G;intro c m;rw[h!,h!]at m;rcases m with(m|m)|m
  ·revert c;decide
  ·exact b5.2.1 c m
  ·revert c;decide) (.inl (by omega)) (by simp[dN];omega)
 simp only[g!,l!]at ay;obtain⟨cl,bA⟩:=keepA cq ck bz;have bc:=amj bk.1 b8;have am:=ajY af.wd.acc;rw[u]at am;have b6:=uO (n:=st.acc.clock.toNat) (by omega);have a5:=λg=>Sa aqI (iq st.acc.clock.toNat) g (by simp;omega);have ai:=λg=>Sa (aqI++iq st.acc.clock.toNat) [93] g (by simp;omega);obtain⟨c3,B,cJ,az,cx,cr⟩:=af.say (el:=9) [aqI++iq st.acc.clock.toNat++ [93]] (n:=1) rfl (by omega) (by simp[iG];omega) (by
  intro t G;simp only[q!]at G;subst G;intro c m;rw[h!,h!]at m;rcases m with(m|m)|m
  ·revert c;decide
  ·exact b6.2.1 c m
  ·revert c;decide) (.inl (by omega)) (by simp[dN];omega)
 simp only[g!,l!]at az;obtain⟨bq,bB⟩:=keepA cr cl bA;obtain⟨an,W⟩:∃an,an=anL 0 (if only=true then roS else rwS) false true false:=⟨_,rfl⟩
 obtain⟨l,ab⟩:∃l,l=B.put h.next (some (O (N tA true) an)):=⟨_,rfl⟩
 have ad:aT 5 (X h.next 0) (.agg (V.ofList an)) B=D V.undef l:=by rw[ab];exact bq.stN (by rw[W];rfl) rfl
 have ae:Kn l h.next (O (N tA true) an):=by rw[ab];exact bq.put _
 have b2:Ch (λj=>j=h.next) B l:=by rw[ab];exact Ch.put _ _ rfl
 have bj:h0.next.nat<=h.next.nat:=q.chz.next;have bO:¬Ft F (λj=>h5.next.nat<=j.nat/\j.nat<h6.next.nat) pc im h.next:=λf=>by
  rcases f with f|f|f|f
  ·exact a1 (.inl f)
  ·have:=k1.2;omega
  ·exact a1 (.inr (.inr (.inl f)))
  ·exact a1 (.inr (.inr (.inr f)))
 have cy:=cx.Tt b2 bB bO bj;have fin:tZ bb h0 Z vw P l pc im ps ir uid w (s++lK (Wn st.acc.aP b.id).length b.valid b.next st.acc.clock) {st with only:=only,vw:=some (dJ st.acc b.id)}:=by
  have:=cy.mk';rw[r]at this;have G:s++lK (Wn st.acc.aP b.id).length b.valid b.next st.acc.clock=(((((s++(dN [32] [aq4]++ [13,10]))++(dN [32] [[42],iq (Wn st.acc.aP b.id).length,aeN]++ [13,10]))++(dN [32] [alM]++ [13,10]))++(dN [32] [ab5++iq b.valid.toNat++ [93]]++ [13,10]))++(dN [32] [ajj++iq b.next.toNat++ [93]]++ [13,10]))++(dN [32] [aqI++iq st.acc.clock.toNat++ [93]]++ [13,10]):=by
   simp only[lK,lineS,o!]
  rw[G];exact this
 rw[ani];cases only with
 |true=>
  have al:=aIw roS B;have M:aT 5 (X h.next 0) (anV 0 roS false true false) B=D V.undef l:=by rw[W]at ad;exact ad
  simp(disch:=omega)only[vvB,a!,reduceCtorEq,↓reduceIte,Kz,NK,NJ,NI,NH,NG,NE,ND,Nz,JL,JK,JJ,JI,JH,JG,JF,JE,Xv,
   <-bl,bi,bg,S4,ix,V4,e5,R1 q5,e6,S7,S8,e9,bf,pU,VU,au,be,bh,aR,a8,av,aw,a6,a9,a3,ag,ax,a7,ba,a4,ah,ay,R1 af,am,bc,a5,ai,az,al,M]
  exact⟨l,by rw[W]at ae;simp only[aU,bW,vvB,a!,reduceCtorEq,↓reduceIte,ni,ae.ldN (n:=5) rfl,bZ],fin⟩
 |false=>
  have al:=aIw rwS B;have M:aT 5 (X h.next 0) (anV 0 rwS false true false) B=D V.undef l:=by rw[W]at ad;exact ad
  simp(disch:=omega)only[vvB,a!,reduceCtorEq,↓reduceIte,Kz,NK,NJ,NI,NH,NG,NE,ND,Nz,JL,JK,JJ,JI,JH,JG,JF,JE,Xu,
   <-bl,bi,bg,S4,ix,V4,e5,R1 q5,e6,S7,S8,e9,bf,pU,VU,au,be,bh,aR,a8,av,aw,a6,a9,a3,ag,ax,a7,ba,a4,ah,ay,R1 af,am,bc,a5,ai,az,al,M]
  exact⟨l,by rw[W]at ae;simp only[aU,bW,vvB,a!,reduceCtorEq,↓reduceIte,ni,ae.ldN (n:=5) rfl,bZ],fin⟩
end
end Go.Proofs.Im
namespace Go.Im
def msC(x:Int×Int×Ml)(vk vs:V):List V:=iV x.1::iV x.2.1::dB x.2.2 vk vs
def msE:El (Int×Int×Ml):=λP h x cs=>∃vk vs,cs=msC x vk vs/\Rws P (flat ji) 1 h vk x.2.2.keys/\Rws P (flat fD) 2 h vs x.2.2.mem
theorem gX:msE.Stable:=λ⟨vk,vm,e,a,b⟩ c d=>⟨vk,vm,e,a.ch (aK _) c d,b.ch (aK _) c d⟩
def yt(ms:List Ml)(box:Int)(i:Nat)(x:Int×Int×Int):List (Int×Int×Ml):=
 match ms.find? λm=>decide (m.id=x.2.1) with
 |some m=>if m.mem.any (λy=>decide ((box,x.1)=y)) then [((i:Int)+1,x.1,m)] else []
 |none=> []
def fH(ms:List Ml)(box:Int):Nat->List (Int×Int×Int)->List (Int×Int×Ml)
 |_,[]=> []
 |i,x::l=>yt ms box i x++fH ms box (i+1) l
theorem acG(ms:List Ml)(box:Int):∀(l m:List (Int×Int×Int)) (i:Nat),fH ms box i (l++m)=fH ms box i l++fH ms box (i+l.length) m
 | [],m,i=>by simp[fH]
 |x::l,m,i=>by
  simp only[List.cons_append,fH,M!,o!];rw[acG ms box l m (i+1),show i+1+l.length=i+(l.length+1) by omega]
theorem KU(ms:List Ml)(box:Int):∀(l:List (Int×Int×Int)) (i:Nat),(fH ms box i l).length<=l.length
 | [],i=>by simp[fH]
 |x::l,i=>by
  simp only[fH,i!,M!];have:=KU ms box l (i+1);have:(yt ms box i x).length<=1:=by
   unfold yt;split
   ·split<;>simp
   ·simp
  omega
theorem YI{α:Type}{f:α->Bool}:∀{l:List α},l.find? f=(match l.findIdx? f with|some k=>l[k]?|none=>none)
 | []=>rfl
 |a::l=>by
  rw[List.find?_cons,List.findIdx?_cons];by_cases h:f a=true
  ·simp[h]
  ·rw[YI (l:=l)];simp only[h,Bool.false_eq_true,↓reduceIte];cases l.findIdx? f<;>simp
end Go.Im
namespace Go.Proofs.Im
section
variable{h h' g:Hp}{F I J:Pos->Prop}{ps pl ib p pv pc:Pos}{A:Acc}{cb:Cap}{fb uid only:Bool}{v vm vl vw:V}{box had:Int}{m:List Mg}
abbrev zMs:List V:= [(Y U 0),(Y U 0),(Y U 0),(Y U 0),(H []),(Y U 0),.aQ,.aQ,(Y U 0),(Y U 0)]
theorem bMs(x:Int×Int×Ml)(vk vs:V)(h:Hp):bQ zMs [(0,1,iV x.1),(1,1,iV x.2.1),(2,8,.agg (V.ofList (dB x.2.2 vk vs)))] h=D (.agg (V.ofList (msC x vk vs))) h:=(rfl)
theorem aK7(x:Int×Int×Ml)(vk vs:V):eH tMs zMs 1 [(0,10,.agg (V.ofList (msC x vk vs)))]=some (O (N tMs true) (msC x vk vs),λp=>.slice p 0 1 (.kn 1)):=(rfl)
theorem bMb(x y:Int)(h:Hp):bQ [(Y U 0),(Y U 0)] [(0,1,iV x),(1,1,iV y)] h=D (.agg (V.ofList (fD (x,y)))) h:=(rfl)
theorem amK{m:Ml}{vk vm:V}{p:Pos}{n:Int}{w:Wr}(k:Kn g p (O w [iV n])):uT [.agg (V.ofList (dB m vk vm)),X p 0] g=D (K (decide (m.id=n))) (g.new (O (N tMl true) (dB m vk vm))):=by
 have e1:=(Kn.new g (O (N tMl true) (dB m vk vm))).ld (q:=0) (x:=iV m.id) rfl;have e2:=(k.add (O (N tMl true) (dB m vk vm))).ld (q:=0) (x:=iV n) rfl;rw[afh];simp only[vvB,a!,reduceCtorEq,↓reduceIte,JX,Rl,Rk,V.dD,e1,e2];simp only[aU,bW,vvB,a!,reduceCtorEq,↓reduceIte,bZ]
theorem ajH(p:Pos)(x:V)(g:Hp):dK kK (.func (.func aah) .nil (.cons (X p 0) .nil)) [x] g=uT [x,X p 0] g:=(rfl)
theorem aoQ(a:dG h F ps A pl ib cb fb vm vl I)(hA:A.Small)(vk:VwK h J pv box had m vw)(hm:m.length<=1000){w:Wr}{C:List V}(kc:Kn h pc (O w C))(hC:C[1]?=some (X pv 0)):
  ∃r h',oL [X pc 0,X ps 0] h=D r h'/\gY h.next.nat msE tMs 10 h' r (fH A.aP box 0 (m.map mgK))/\Nw h h':=by
 obtain⟨r,h1,e1,o1,c1⟩:=OT a hA;have R:=(o1.rws dw).mono (P':=λj=>h.next.nat<=j.nat/\j.nat<h1.next.nat) dw λj hj q=>⟨q,hj⟩
 have P1:=(kc.nw c1).ld hC;have a7:=((kc.nw c1).bump 0).ld hC;have ar:=vk.ch c1 λ_ _ q=>q;obtain⟨ri,h2,e2,o2,c2⟩:=aCK ar hm;have au:=ar.ch c2 λ_ _ q=>q;have P2:=((kc.nw c1).nw c2).ld hC;obtain⟨ru,h3,e3,o3,c3⟩:=acX au hm;have Ri:=(o2.rws (aK _)).nw (aK _) c3;have Ru:=o3.rws (aK _);have L:Nw h1 h3:=c2.trans c3;have n1:=c1.next;have n2:=c2.next;have n3:=c3.next;have hn:=hA.aP;rw[aiE];show aX n! _ (λr h'=>gY h.next.nat msE tMs 10 h' r (fH A.aP box 0 (m.map mgK))/\Nw h h') _;have cN:∀{k:Out},chk (λh=>aF (X pc 1) h) (X pv 0) k 1 [h1]=k:=wG rfl P1;have li:=Ri.len h3;rw[k!]at li;simp only[vvB,a!,reduceCtorEq,↓reduceIte,NQ,TW,TV,TU,TT,TS,e1,P1,P2,cN,e2,e3,li];refine Oc.then (dS (σ:=V) (n:=m.length) (pi:=26) (pn:=25) (pc:=27) [8,24,5,7,0] (λv=> [v,ri,r,ru,X pc 0]) (λk v g=>Nw h3 g/\dH h3.next.nat (λj=>h.next.nat<=j.nat/\j.nat<h1.next.nat) msE tMs 10 g v (fH A.aP box 0 ((m.map mgK).take k)))
  (A:=λfr g=>∃v,fr.get (c! 8)=some v/\Nw h3 g/\dH h3.next.nat (λj=>h.next.nat<=j.nat/\j.nat<h1.next.nat) msE tMs 10 g v (fH A.aP box 0 (m.map mgK))) (B:=λfr g=>False) (s:=.aQ)
  (λfr h _ k e1 e2=>by simp only[vvB,a!,reduceCtorEq,↓reduceIte,TR,e1,e2]) (λfr h k _ e1=>by simp(disch:=omega)only[vvB,a!,reduceCtorEq,↓reduceIte,Ro,e1]) (by decide) (by rw[dW];omega) (qK0) (qK0) (by simp only[Fa,vvB,a!,reduceCtorEq,↓reduceIte,and_self]) ⟨Nw.refl _,by simpa[fH]using dH.nil _ _ _ _ _ _⟩ ?_ ?_) ?_ ?_
 ·intro k v fr g hk G ae fa hI;obtain⟨f8,E,f5,f7,f0,-⟩:=fa;obtain⟨c,o⟩:=hI;obtain⟨x,hx⟩:∃x,m[k]?=some x:=⟨_,b! hk⟩
  have aM:(m.map (·.id))[k]?=some x.id:=by rw[u!,hx];rfl
  have a0:(m.map (·.uid))[k]?=some x.uid:=by rw[u!,hx];rfl
  have aR:(m.map mgK)[k]?=some (mgK x):=by rw[u!,hx];rfl
  have ag:fH A.aP box 0 ((m.map mgK).take (k+1))=fH A.aP box 0 ((m.map mgK).take k)++yt A.aP box k (mgK x):=by
   rw[Go.Vm.take_snoc aR,acG,j!,k!,Nat.min_eq_left (G! hk),E!];simp[fH]
  obtain⟨i1,q1,av,ah,ax,-,-,-,a2,-⟩:=(Ri.nw (aK _) c).elt aM;obtain rfl:av=gV x.id:=ax;have i:=a2 g rfl 0 (iV x.id) rfl;rw[p!]at i;obtain⟨g2,af⟩:∃g2,g2=g.new (O (N iW true) [iV x.id]):=⟨_,rfl⟩
  have S2:aT 1 (X g.next 0) (iV x.id) (g.new (O (N iW true) [(Y U 0)]))=D V.undef g2:=by rw[af];exact alI ⟨rfl,rfl⟩ (by decide)
  have Q:Nw g g2:=by rw[af];exact Nw.new _ _
  have k2:Kn g2 g.next (O (N iW true) [iV x.id]):=by rw[af];exact Kn.new _ _
  have aj:=c.trans Q;obtain⟨g3,e4,c4⟩:=D6 (R.nw dw (L.trans aj)) dw (λy=>decide (y.id=x.id)) (by omega) (f:=.func (.func aah) .nil (.cons (X g.next 0) .nil)) (λb cs g _ cg e _=>by
   obtain⟨vk,vm,rfl,-,-⟩:=e;rw[ajH,amK (k2.nw cg)];exact⟨_,rfl,Nw.new _ _⟩)
  have d:Nw h3 g3:=aj.trans c4;have W:=YI (f:=λy:Ml=>decide (y.id=x.id)) (l:=A.aP);have a6:(fH A.aP box 0 ((m.map mgK).take k)).length<=1000:=by
   have:=KU A.aP box ((m.map mgK).take k) 0;rw[j!,k!]at this;omega
  have ba:=c.next;cases Z:A.aP.findIdx? (λy=>decide (y.id=x.id)) with
  |none=>
   rw[Z]at e4 W;simp only[gK]at e4;have M:yt A.aP box k (mgK x)= []:=by unfold yt;show(match A.aP.find? (λy=>decide (y.id=x.id)) with|some m=>_|none=>_)=_;rw[W]
   simp(disch:=omega)only[vvB,a!,reduceCtorEq,↓reduceIte,yY,yX,yV,E,G,f5,ah,i,S2,e4];refine⟨qK2 G,qK2 ae,v,by simp only[Fa,vvB,a!,reduceCtorEq,↓reduceIte,f8,E,f5,f7,f0,and_self],d,?_⟩;rw[ag,M,N!];exact o.nw gX (Q.trans c4)
  |some t=>
   rw[Z]at e4 W;simp only[gK]at e4;obtain⟨y,hy⟩:∃y,A.aP[t]?=some y:=by
    cases hq:A.aP[t]? with
    |some y=>exact⟨y,rfl⟩
    |none=>
     rw[t!]at Z;obtain⟨ht,-⟩:=Z;rw[b! ht]at hq;cases hq
   have aa:A.aP.find? (λy=>decide (y.id=x.id))=some y:=by rw[W];exact hy
   have a1:=e! hy;have bb:=hA.each y a1;have a5:=(au.ch c3 λ_ _ q=>q).ch d λ_ _ q=>q;have P3:=((((kc.nw c1).nw L).nw d).bump 0).ld hC;have ai:=(((kc.nw c1).nw L).nw d).ld hC;have eB:=arE a5;obtain⟨i2,q2,a8,an,ay,-,aE,-,a3,a4⟩:=(R.nw dw (L.trans d)).elt hy;obtain⟨yk,ys,rfl,rk,rs⟩:=ay;have P:=a3 g3 rfl 5 ys rfl;obtain⟨i3,q3,aw,ao,az,-,aL,-,ap,-⟩:=(Ru.nw (aK _) d).elt a0;obtain rfl:aw=gV x.uid:=az;have u:=ap g3 rfl 0 (iV x.uid) rfl;rw[p!]at u;obtain⟨S,e5,c5⟩:=afi rs (box,x.uid) (by omega);have ak:∀{k:Out},chk (λh=>aF (X i2 (q2+5)) h) ys k 1 [g3]=k:=wG rs.noF P;have al:∀{k:Out},chk (λh=>aF (X i3 q3) h) (iV x.uid) k 1 [g3]=k:=wG rfl u;have ad:=d.trans c5;have ab:((t:Int)>=0)=True:=eq_true (by omega);by_cases hc:(y.mem.any λz=>decide ((box,x.uid)=z))=true
   ·rw[hc]at e5;have e5:ku [ys,.agg (.cons (iV box) (.cons (iV x.uid) .nil))] g3=D (K true) S:=e5;have M:yt A.aP box k (mgK x)= [((k:Int)+1,x.uid,y)]:=by
     unfold yt;show(match A.aP.find? (λy=>decide (y.id=x.id)) with|some m=>_|none=>_)=_;rw[aa];show(if(y.mem.any λz=>decide ((box,x.uid)=z))=true then _ else _)=_;rw[if_pos hc];rfl
    have aq:=a4 (aI 1 S) (c5.get i2 aE λq=>q);have ac:=ap (aI 1 S) (c5.get i3 aL λq=>q) 0 (iV x.uid) rfl;rw[p!]at ac;have og:=o.nw gX ((Q.trans c4).trans c5);have a9:=ad.next;obtain⟨v',g5,e6,o6,c6,n6,-⟩:=og.app1 (bt:=120) (x:=((k:Int)+1,x.uid,y)) (cs:=msC ((k:Int)+1,x.uid,y) yk ys) (P':=λj=>h.next.nat<=j.nat/\j.nat<h1.next.nat) gX (by omega) rfl (λ_ _ q=>q) ⟨yk,ys,rfl,rk.nw (aK _) c5,rs.nw (aK _) c5⟩ (λj _ q e=>by have:=(og.eu e).1;omega) (by omega);have e6:cZ tMs 10 120 v (.slice S.next 0 1 (.kn 1)) (S.new (O (N tMs true) (msC ((k:Int)+1,x.uid,y) yk ys)))=D v' g5:=e6;have am:(aI 1 S).put S.next (some (O (N tMs true) (msC ((k:Int)+1,x.uid,y) yk ys)))=S.new (O (N tMs true) (msC ((k:Int)+1,x.uid,y) yk ys)):=rfl;have bM:=λh=>bMs ((k:Int)+1,x.uid,y) yk ys h;simp only[]at bM;simp(disch:=omega)only[vvB,a!,reduceCtorEq,↓reduceIte,yY,yX,yV,TQ,E,G,f5,f7,f8,f0,ah,i,S2,e4,ab,ai,eB,an,P,ak,ao,u,al,bMb,e5,aq,ac,bM,aK7,am,e6];refine⟨qK2 G,qK2 ae,v',by simp only[Fa,vvB,a!,reduceCtorEq,↓reduceIte,E,f5,f7,f0,and_self],?_,?_⟩
    ·exact ad.own c6 λj e=>(og.eu e).1
    ·rw[ag,M];exact o6
   ·have aD:(y.mem.any λz=>decide ((box,x.uid)=z))=false:=Bool.eq_false_iff.2 hc;rw[aD]at e5;have e5:ku [ys,.agg (.cons (iV box) (.cons (iV x.uid) .nil))] g3=D (K false) S:=e5;have M:yt A.aP box k (mgK x)= []:=by
     unfold yt;show(match A.aP.find? (λy=>decide (y.id=x.id)) with|some m=>_|none=>_)=_;rw[aa];show(if(y.mem.any λz=>decide ((box,x.uid)=z))=true then _ else _)=_;rw[if_neg hc]
    simp(disch:=omega)only[vvB,a!,reduceCtorEq,↓reduceIte,yY,yX,yV,E,G,f5,f7,f8,f0,ah,i,S2,e4,ab,ai,eB,an,P,ak,ao,u,al,bMb,e5];refine⟨qK2 G,qK2 ae,v,by simp only[Fa,vvB,a!,reduceCtorEq,↓reduceIte,f8,E,f5,f7,f0,and_self],ad,?_⟩;rw[ag,M,N!];exact o.nw gX ((Q.trans c4).trans c5)
 ·intro v fr g fa hI;obtain⟨f8,-⟩:=fa;obtain⟨c,o⟩:=hI;rw[List.take_of_length_le (by simp)]at o;exact⟨v,f8,c,o⟩
 ·rintro fr g ⟨v,f8,c,o⟩;simp only[vvB,a!,reduceCtorEq,↓reduceIte,Rn,f8];exact aX.ret (r:=v) (qT0) ⟨o.wide gX (by omega) λj hj q=>⟨q.1,λe=>by have:=(o.eu e).1;omega⟩,(c1.trans L).trans c⟩
 ·intro fr g q;exact q.elim
end
end Go.Proofs.Im
namespace Go.Vm
section
variable{h h':Hp}{im:Pos}{α:Type}
theorem Kn.aKd{t:TypeId}{f:Bool}{ds:List (List V)}{rest c:List V}{w k:Nat}(o:Kn h im (O (N t f) (ds.flatten++rest)))(b:∀d∈ds,d.length=w)(i:k<ds.length)(e:c.length=w):
  aT w (X im (k*w)) (.agg (V.ofList c)) h=D V.undef (h.put im (some (O (N t f) ((ds.set k c).flatten++rest)))):=by
 have hl:=gW b;have j:(k+1)*w=k*w+w:=F! k w;have m:(k+1)*w<=ds.length*w:=I! _ i;have n:iZ (k*w) c (ds.flatten++rest)=some ((ds.set k c).flatten++rest):=by
  rw[KP (by rw[i!];omega),y! (by omega),TA k b,e,<-j,List.drop_append_of_le_length (by omega),acP (k+1) b];rw[List.set_eq_take_append_cons_drop,if_pos i];simp[o!]
 rw[vX o.1 rfl (by show K! (V.ofList c).list.length w=true;rw[V.dD,e,w!])];show(match iZ (k*w) (V.ofList c).list (ds.flatten++rest) with|some a=>R.ok V.undef (h.put im (some (O (N t f) a)))|none=>.bad)=_;rw[V.dD,n]
theorem Kn.aKl{wr:Wr}{ds:List (List V)}{rest c:List V}{w k:Nat}(n:Kn h im (O wr (ds.flatten++rest)))(d:∀c∈ds,c.length=w)(a:ds[k]?=some c):bT w (X im (k*w)) h=D (.agg (V.ofList c)) h:=by
 have j:=(List.getElem?_eq_some_iff.1 a).1;have hl:=gW d;have e:=Ji d a;have b:=d c (e! a);have o:(k+1)*w=k*w+w:=F! k w;have m:(k+1)*w<=ds.length*w:=I! _ j;show dP h im (λ_ cs=>match gm w (fB (k*w) cs) with|some l=>R.ok (V.agg (V.ofList l)) h|none=>.bad)=_;rw[dM (wr:=wr) (all:=ds.flatten++rest) (by rw[n.1];rfl),vP (cs:=c) (λf i=>?_) b];rw[B! (by omega),<-e,List.getElem?_take,if_pos i,r!]
theorem XR(zs:List V):∀n:Nat,(times n zs).length=n*zs.length
 |0=>by show([]:List V).length=_;simp
 |n+1=>by show(zs++times n zs).length=_;rw[i!,XR zs n,F!];omega
theorem aHW{w n m:Nat}(a:m<n)(h:Hp):eY w (.slice im 0 n (.un w)) (some (Y U (m:Int))) none none h=D (.slice im (m*w) (n - m) (.un w)) h:=by
 cases m with
 |zero=>
  show(match A! n n,A! 0 n,K! w w with
     |true,true,true=>R.ok (V.slice im 0 n (.un w)) h
     |_,_,_=>R.bad)=_
  rw[d! (z! _),d! (Q! _),w!,Nat.zero_mul,Nat.sub_zero]
 |succ m=>
  show(match A! n n,A! (m+1) n,K! w w with
     |true,true,true=>(match Nat.blt (m+1) n with
      |true=>dY (0+(m+1)*w) λq=>dY (n - (m+1)) λn=>R.ok (V.slice im q n (.un w)) h
      |false=>D .emp h)
     |_,_,_=>R.bad)=_
  rw[d! (z! _),d! (G! a),w!,show Nat.blt (m+1) n=true by rw[R!];exact a];simp only[dF,E!]
theorem aHV{w n m:Nat}(a:m<=n)(h:Hp):eY w (.slice im 0 n (.un w)) none (some (Y U (m:Int))) none h=D (.slice im 0 m (.un w)) h:=by
 show(match A! m n,A! 0 m,K! w w with
     |true,true,true=>R.ok (V.slice im 0 m (.un w)) h
     |_,_,_=>R.bad)=_
 rw[d! a,d! (Q! _),w!]
theorem azI{t:TypeId}{f:Bool}{ds:List (List V)}{rest zs:List V}{w m:Nat}(k:Kn h im (O (N t f) (ds.flatten++rest)))(e:∀d∈ds,d.length=w)(n:m<ds.length)(i:zs.length=w):
  KT zs (.slice im (m*w) (ds.length - m) (.un w)) h=D V.undef (h.put im (some (O (N t f) ((ds.take m).flatten++(times (ds.length - m) zs++rest))))):=by
 have hl:=gW e;have a:m*w+(ds.length - m)*w=ds.length*w:=by rw[<-Nat.add_mul];congr 1;omega
 have c:iZ (m*w) (times (ds.length - m) zs) (ds.flatten++rest)=some ((ds.take m).flatten++(times (ds.length - m) zs++rest)):=by
  rw[KP (by rw[XR,i,i!];omega),XR,i,a,y! (by omega),TA m e];rw[<-hl,List.drop_left,o!]
 obtain⟨q,j⟩:∃q,ds.length - m=q+1:=⟨ds.length - m - 1,by omega⟩
 rw[j]at c⊢;show dP h im (λwr cs=>(match wr with
   |N t f=>(match iZ (m*w) (times (q+1) zs) cs with|some b=>R.ok V.undef (h.put im (some (O (N t f) b)))|none=>.bad)
   | .ro=>.bad))=_
 rw[dM (wr:=N t f) (all:=ds.flatten++rest) (by rw[k.1];rfl)];simp only[c]
def FU(el:TypeId)(w:Nat)(P:Pos->Prop)(E:El α)(h:Hp)(v:V)(l:List α):Prop:=
 ∃a,All2 (E P h) l a/\(∀c∈a,c.length=w)/\((l= []/\v=.aQ)\/∃i f rest,v=.slice i 0 l.length (.un w)/\Kn h i (O (N el f) (a.flatten++rest)))
theorem dH.aH1{b:Nat}{P:Pos->Prop}{E:El α}{el:TypeId}{w:Nat}{v:V}{l:List α}(r:dH b P E el w h v l):FU el w P E h v l:=by
 obtain⟨c,a,j,s⟩:=r;refine⟨c,a,j,?_⟩;rcases s.is with⟨h0,e⟩|⟨i,e,hb,hi,f,d⟩
 ·exact .inl ⟨List.length_eq_zero_iff.1 h0,e⟩
 ·exact .inr ⟨i,f,[],e,by simpa using d,hi⟩
theorem FU.rws{el:TypeId}{w:Nat}{P:Pos->Prop}{E:El α}{v:V}{l:List α}(r:FU el w P E h v l)(d:E.Stable):Rws (λj=>P j\/bH v=some j) E w h v l:=by
 obtain⟨b,a,c,r⟩:=r;have a':All2 (E (λj=>P j\/bH v=some j) h) l b:=a.mono λ_ _ e=>d e (Nw.refl h) λj _ q=>⟨.inl q,λq=>q⟩
 rcases r with⟨rfl,rfl⟩|⟨i,f,rest,rfl,k⟩
 ·cases a;exact Rws.aQ _ _ _ _
 ·refine⟨b,a',c,⟨by rw[gW c,a.len],.inr ⟨i,0,_,N el f,b.flatten++rest,rfl,k.2,by rw[k.1];rfl,λq n=>?_⟩⟩,λ_ _ _ _ e=>(by cases e;rfl),λj m=>.inr m⟩;rw[E!,B!];rw[gW c,a.len];exact n
theorem FU.ch{el:TypeId}{w:Nat}{P P' S:Pos->Prop}{E:El α}{v:V}{l:List α}(r:FU el w P E h v l)(d:E.Stable)(c:Ch S h h')(n:∀j,bH v=some j->¬S j)(m:∀j:Pos,j.nat<h.next.nat->P j->P' j/\¬S j):FU el w P' E h' v l:=by
 obtain⟨b,a,o,r⟩:=r;exact⟨b,a.mono λ_ _ e=>d e c m,o,r.imp id λ⟨i,f,rest,e,k⟩=>⟨i,f,rest,e,k.ch c (n i (by rw[e];rfl))⟩⟩
theorem FU.nw{el:TypeId}{w:Nat}{P:Pos->Prop}{E:El α}{v:V}{l:List α}(r:FU el w P E h v l)(a:E.Stable)(c:Nw h h'):FU el w P E h' v l:=r.ch a c (λ_ _ q=>q) λ_ _ q=>⟨q,λq=>q⟩
theorem Ko{p:α->Bool}{l:List α}{k:Nat}{x:α}(a:l[k]?=some x):(l.take (k+1)).filter p=(l.take k).filter p++(if p x=true then [x] else []):=by
 rw[take_snoc a,List.filter_append];congr 1;by_cases h:p x=true<;>simp[h]
end
end Go.Vm
namespace Go.Proofs.Im
section
variable{h h' g:Hp}{P:Pos->Prop}{p im:Pos}{v f:V}{l:List (Int×Int×Ml)}
theorem Ut(r:FU tMs 10 P msE h v l)(hP:∀j,P j->bH v≠some j)(p:Int×Int×Ml->Bool)(hn:l.length<=1000)
  (ap:∀a cs g,a∈l->Ch (λj=>bH v=some j) h g->(∃Q,msE Q g a cs)->∃g',dK nY f [.agg (V.ofList cs)] g=D (K (p a)) g'/\Nw g g')
  (aq:∀a cs g,a∈l->Ch (λj=>bH v=some j) h g->(∃Q,msE Q g a cs)->∃g',dK uf f [.agg (V.ofList cs)] g=D (K (p a)) g'/\Nw g g'):
  ∃Z h',jg [v,f] h=D Z h'/\FU tMs 10 P msE h' Z (l.filter λa=>!p a)/\Ch (λj=>bH v=some j) h h'/\∀j,bH Z=some j->bH v=some j:=by
 obtain⟨h1,e1,c1⟩:=abP (r.rws gX) gX p (by omega) (f:=f) (λa cs g ha W e _=>ap a cs g ha W.ch ⟨_,e⟩);cases S:l.findIdx? p with
 |none=>
  rw[S]at e1;simp only[gK]at e1;have aj:l.filter (λa=>!p a)=l:=J!.2 λa ha=>by
   have:=List.findIdx?_eq_none_iff.1 S a ha;simp[this]
  refine⟨v,h1,?_,by rw[aj];exact r.nw gX c1,c1.ch,λ_ q=>q⟩;rw[y9];simp(disch:=omega)only[vvB,a!,reduceCtorEq,↓reduceIte,kF,qm,ql,qj,zT,e1];simp only[aU,bW,vvB,a!,reduceCtorEq,↓reduceIte,bZ]
 |some t=>
  rw[S]at e1;simp only[gK]at e1;obtain⟨ht,av,au⟩:=t!.1 S;have al:(l.take t).filter (λa=>!p a)=l.take t:=J!.2 λa ha=>by
   obtain⟨j,hj,e⟩:=List.mem_iff_getElem.1 ha;rw[j!]at hj;have:=au j (by omega);rw[List.getElem_take]at e;rw[e]at this;simpa using this
  obtain⟨ah,a,hw,rr⟩:=r;rcases rr with⟨rfl,-⟩|⟨i,ff,rest,rfl,km⟩
  ·simp at ht
  have ao:=a.len;have ln:∀g,aZ 2 (.slice i 0 l.length (.un 10)) g=D (Y U (l.length:Int)) g:=λg=>rfl;have ax:l[t]?=some l[t]:=b! ht;have m1:=km.nw c1;have az:∀j,bH (V.slice i 0 l.length (.un 10))=some j->j=i:=λj e=>by cases e;rfl
  have ai:∀j,P j->j≠i:=λj q e=>hP j q (by rw[e];rfl);rw[y9]
  suffices T:aX n! [.tmp 4] (λZ h'=>FU tMs 10 P msE h' Z (l.filter λa=>!p a)/\Ch (λj=>bH (V.slice i 0 l.length (.un 10))=some j) h h'/\∀j,bH Z=some j->bH (V.slice i 0 l.length (.un 10))=some j)
    (kF (T.set (some f) (c! 1) (T.set (some (.slice i 0 l.length (.un 10))) (c! 0) T.nil)) h) by
   obtain⟨Z,h',e,q⟩:=T;exact⟨Z,h',e,q⟩
  simp(disch:=omega)only[vvB,a!,reduceCtorEq,↓reduceIte,kF,qm,ql,qj,zS,e1];refine Oc.then (dZ (n:=l.length - (t+1)) (λm fr g=>∃(j:Nat) (ds:List (List V)),fr.get (c! 0)=some (.slice i 0 l.length (.un 10))/\fr.get (c! 1)=some f/\fr.get (c! 5)=some (Y U ((((l.take j).filter λa=>!p a).length:Nat):Int))/\fr.get (c! 6)=some (Y U (j:Int))/\
    j+m=l.length/\((l.take j).filter λa=>!p a).length<j/\Kn g i (O (N tMs ff) (ds.flatten++rest))/\(∀d∈ds,d.length=10)/\ds.length=l.length/\
    All2 (msE P g) ((l.take j).filter λa=>!p a) (ds.take ((l.take j).filter λa=>!p a).length)/\All2 (msE P g) (l.drop j) (ds.drop j)/\Ch (λq=>q=i) h g)
   (A:=λfr g=>∃ds:List (List V),fr.get (c! 0)=some (.slice i 0 l.length (.un 10))/\fr.get (c! 5)=some (Y U (((l.filter λa=>!p a).length:Nat):Int))/\(l.filter λa=>!p a).length<l.length/\Kn g i (O (N tMs ff) (ds.flatten++rest))/\(∀d∈ds,d.length=10)/\ds.length=l.length/\
    All2 (msE P g) (l.filter λa=>!p a) (ds.take (l.filter λa=>!p a).length)/\Ch (λq=>q=i) h g) (B:=λ_ _=>False) (by rw[dW];omega) ?_ ?_) ?_ ?_
  ·have aa:(l.take (t+1)).filter (λa=>!p a)=l.take t:=by
    rw[Ko ax,al];simp[av]
   have y:(l.take t).length=t:=by rw[j!];omega
   have a1:All2 (msE P h1) l ah:=a.mono λ_ _ e=>gX e c1 λj _ q=>⟨q,λq=>q⟩
   exact⟨t+1,ah,qK0,qK0,by simp only[vvB,a!,reduceCtorEq,↓reduceIte];rw[aa,y],qK1,by omega,by rw[aa,y];omega,m1,hw,ao,by rw[aa,y];exact a1.take t,a1.drop (t+1),c1.ch⟩
  ·rintro m fr g ⟨j,ds,f0,f1,M,f6,hj,ad,kg,o,I,x1,x2,W⟩;by_cases hz:m=0
   ·have ar:j=l.length:=by omega
    subst ar;rw[L!]at M ad x1;simp(disch:=omega)only[vvB,a!,reduceCtorEq,↓reduceIte,lF,lq,f0,f6,ln];exact⟨rfl,ds,qK2 f0,qK2 M,ad,kg,o,I,x1,W⟩
   ·have C:j<l.length:=by omega
    obtain⟨x,hx⟩:∃x,l[j]?=some x:=⟨_,b! C⟩
    obtain⟨c,hc⟩:∃c,ds[j]?=some c:=⟨_,b! (by omega)⟩
    have ex:msE P g x c:=by
     obtain⟨c',ak,e⟩:=x2.get (k:=0) (x:=x) (by rw[r!,p!];exact hx);rw[r!,p!,hc]at ak;cases ak;exact e
    have b:=o c (e! hc);have N1:=kg.aKl o hc;have I1:=λg=>uV (sz:=10) (i:=i) (c:=.un 10) C g;obtain⟨E,u⟩:∃E,E=g.new (O (N tMs true) c):=⟨_,rfl⟩
    have S2:aT 10 (X g.next 0) (.agg (V.ofList c)) (g.new (O (N tMs true) zMs))=D V.undef E:=by
     rw[u];have:=iT (h:=g) (t:=tMs) (f:=true) (z:=zMs) (l:=V.ofList c) (n:=10) (V.dO _) (by rw[V.dD];exact b) rfl;rw[V.dD]at this;exact this
    have L:Nw g E:=by rw[u];exact Nw.new _ _
    have k2:Kn E g.next (O (N tMs true) c):=by rw[u];exact Kn.new _ _
    have an:msE P E x c:=gX ex L λj _ q=>⟨q,λq=>q⟩
    obtain⟨g3,e3,c3⟩:=aq x c E (e! hx) ((W.nw L).mono λj _ e=>by rw[e];rfl) ⟨_,an⟩;have N2:=k2.ldN b;have N3:=(k2.nw c3).ldN b;have ae:=(kg.nw L).nw c3;have af:∀{a cs},msE P g a cs->msE P g3 a cs:=λe=>gX e (L.trans c3) λj _ q=>⟨q,λq=>q⟩
    have ay:l.drop j=x::l.drop (j+1):=by rw[C! C];rw[b! C]at hx;cases hx;rfl
    have am:All2 (msE P g) (l.drop (j+1)) (ds.drop (j+1)):=by
     have:=x2.drop 1;rwa[O!,O!]at this
    cases hp:p x with
    |false=>
     rw[hp]at e3;obtain⟨s,J⟩:∃s,s=((l.take j).filter λa=>!p a).length:=⟨_,rfl⟩
     rw[<-J]at M ad x1;have I2:=λg=>uV (sz:=10) (i:=i) (c:=.un 10) (show s<l.length by omega) g;obtain⟨g4,ac⟩:∃g4,g4=g3.put i (some (O (N tMs ff) ((ds.set s c).flatten++rest))):=⟨_,rfl⟩
     have S4:aT 10 (X i (s*10)) (.agg (V.ofList c)) g3=D V.undef g4:=by rw[ac];exact ae.aKd o (by omega) b
     have c4:Ch (λq=>q=i) g3 g4:=by rw[ac];exact Ch.put _ _ rfl
     have ag:∀{a cs},msE P g a cs->msE P g4 a cs:=λe=>gX (af e) c4 λj _ q=>⟨q,ai j q⟩
     simp(disch:=omega)only[vvB,a!,reduceCtorEq,↓reduceIte,lF,lq,qh,qg,zQ,yO,qi,f0,f1,M,f6,ln,I1,N1,S2,N2,e3,N3,I2,S4];have G:(l.take (j+1)).filter (λa=>!p a)=(l.take j).filter (λa=>!p a)++ [x]:=by rw[Ko hx];simp[hp]
     have ab:((l.take (j+1)).filter λa=>!p a).length=s+1:=by rw[G,i!,<-J];rfl
     refine⟨m - 1,by omega,j+1,ds.set s c,qK2 f0,qK2 f1,by simp only[vvB,a!,reduceCtorEq,↓reduceIte];rw[ab];rfl,qK1,by omega,by rw[ab];omega,by rw[ac];exact ae.put _,?_,by rw[List.length_set];exact I,?_,?_,?_⟩
     ·intro d hd;rcases List.mem_or_eq_of_mem_set hd with q|q
      ·exact o d q
      ·rw[q];exact b
     ·have aw:(ds.set s c).take (s+1)=ds.take s++ [c]:=by
       rw[List.take_add_one,List.getElem?_set_self (by omega),List.take_set_of_le (z! _)];rfl
      rw[ab,G,aw];exact(x1.mono λ_ _ e=>ag e).append (.cons (ag ex) .nil)
     ·rw[List.drop_set_of_lt (by omega)];exact am.mono λ_ _ e=>ag e
     ·exact((W.nw L).nw c3).trans c4 λ_ _ q=>q
    |true=>
     rw[hp]at e3;simp(disch:=omega)only[vvB,a!,reduceCtorEq,↓reduceIte,lF,lq,qh,qg,qi,f0,f1,M,f6,ln,I1,N1,S2,N2,e3];have G:(l.take (j+1)).filter (λa=>!p a)=(l.take j).filter (λa=>!p a):=by rw[Ko hx];simp[hp]
     exact⟨m - 1,by omega,j+1,ds,qK2 f0,qK2 f1,by simp only[vvB,a!,reduceCtorEq,↓reduceIte,M];rw[G],qK1,by omega,by rw[G];omega,ae,o,I,by rw[G];exact x1.mono λ_ _ e=>af e,am.mono λ_ _ e=>af e,(W.nw L).nw c3⟩
  ·rintro fr g ⟨ds,f0,M,y,kg,o,I,x1,W⟩;obtain⟨s,J⟩:∃s,s=(l.filter λa=>!p a).length:=⟨_,rfl⟩
   rw[<-J]at M y x1;have s1:=aHW (im:=i) (w:=10) y g;have z1:=azI (zs:=zMs) (m:=s) kg o (by omega) rfl;rw[I]at z1;obtain⟨E,u⟩:∃E,E=g.put i (some (O (N tMs ff) ((ds.take s).flatten++(times (l.length - s) zMs++rest)))):=⟨_,rfl⟩
   rw[<-u]at z1;have L:Ch (λq=>q=i) g E:=by rw[u];exact Ch.put _ _ rfl
   have k2:Kn E i (O (N tMs ff) ((ds.take s).flatten++(times (l.length - s) zMs++rest))):=by rw[u];exact kg.put _
   have s2:=aHV (im:=i) (w:=10) (G! y) E;simp only[vvB,a!,reduceCtorEq,↓reduceIte,yN,yM,f0,M,s1,z1,s2];refine aX.ret (qT0) ⟨⟨ds.take s,x1.mono λ_ _ e=>gX e L λj _ q=>⟨q,ai j q⟩,λc hc=>o c (List.mem_of_mem_take hc),.inr ⟨i,ff,_,by rw[<-J],k2⟩⟩,(W.trans L λ_ _ q=>q).mono λj _ e=>by rw[e];rfl,λj e=>by cases e;rfl⟩
  ·intro fr g q;exact q.elim
end
end Go.Proofs.Im
namespace Go.Im
abbrev jR:List Nat:= [36,100,101,108,101,116,101,100]
def lJ(m:Ml):Bool:=m.keys.any λa=>decide (jR=a)
structure DGood (A:Acc) (y:Ml):Prop where
 small:A.Small
 logged:A.Logged
 inn:y.In A
 ents:A.ents.length<=8000
 clock:A.clock<900000
 oct:0<=A.octets/\A.octets<1000000000
 text:y.text.length<1000000000
inductive Ds:Acc->List Ml->Acc->Prop
 |nil (A:Acc):Ds A [] A
 |cons {A B:Acc} {x y:Ml} {l:List Ml} {t:Nat}:A.aP[t]?=some y->y.id=x.id->A.aP.findIdx? (λz=>decide (z.id=y.id))=some t->DGood A y->Ds (Jl A t y) l B->Ds A (x::l) B
end Go.Im
namespace Go.Proofs.Im
section
variable{h h' g:Hp}{P F J G I:Pos->Prop}{p pv ir pc qs cp pl2 f:Pos}{A B:Acc}{u:Cap}{d only:Bool}{v vw C E:V}{box had:Int}{m:List Mg}{l:List (Int×Int×Ml)}
theorem at6{x:Ml}{vk vs:V}(rs:Rws P (flat fD) 2 h vs x.mem)(hm:x.mem.length<=1000)(box:Int):
  ∃r h',KH [.agg (V.ofList (dB x vk vs)),iV box] h=D r h'/\gY h.next.nat (flat gV) iW 1 h' r ((x.mem.filter λy=>!decide (y.1=box)).map (·.1))/\Nw h h':=by
 obtain⟨L,aa,c1,k1⟩:=mkW h (O (N tMl true) (dB x vk vs));have L5:=k1.ld (q:=5) (x:=vs) rfl;have R:=rs.nw (aK _) c1;have n1:=c1.next;rw[ang];show aX n! _ (λr h'=>gY h.next.nat (flat gV) iW 1 h' r ((x.mem.filter λy=>!decide (y.1=box)).map (·.1))/\Nw h h') _;simp only[vvB,a!,reduceCtorEq,↓reduceIte,VA,abB,abA,abz,V.dD,<-aa,L5,R.len];refine Oc.then (dS (σ:=V) (n:=x.mem.length) (pi:=11) (pn:=10) (pc:=12) [5,9,1] (λv=> [v,vs,iV box]) (λk v g=>Nw L g/\gY L.next.nat (flat gV) iW 1 g v (((x.mem.take k).filter λy=>!decide (y.1=box)).map (·.1)))
  (A:=λfr g=>∃v,fr.get (c! 5)=some v/\Nw L g/\gY L.next.nat (flat gV) iW 1 g v ((x.mem.filter λy=>!decide (y.1=box)).map (·.1))) (B:=λfr g=>False) (s:=.aQ)
  (λfr h _ k e1 e2=>by simp only[vvB,a!,reduceCtorEq,↓reduceIte,aby,e1,e2]) (λfr h k _ e1=>by simp(disch:=omega)only[vvB,a!,reduceCtorEq,↓reduceIte,abw,e1]) (by decide) (by rw[dW];omega) (qK0) (qK0) (by simp only[Fa,vvB,a!,reduceCtorEq,↓reduceIte,and_self]) ⟨Nw.refl _,gY.nil _ _ _ _ _⟩ ?_ ?_) ?_ ?_
 ·intro k v fr g hk a S fa hI;obtain⟨b,f9,f1,-⟩:=fa;obtain⟨c,o⟩:=hI;obtain⟨y,hy⟩:∃y,x.mem[k]?=some y:=⟨_,b! hk⟩
  obtain⟨i,q,cs,e1,e2,-,-,-,-,e3⟩:=(R.nw (aK _) c).elt hy;obtain rfl:cs=fD y:=e2;have Q:=e3 g rfl;obtain⟨t,z⟩:∃t,t=g.new (O (N tMb true) (fD y)):=⟨_,rfl⟩
  have S2:aT 2 (X g.next 0) (.agg (V.ofList (fD y))) (g.new (O (N tMb true) [(Y U 0),(Y U 0)]))=D V.undef t:=by rw[z];exact iT (V.dO _) rfl rfl
  have M:Nw g t:=by rw[z];exact Nw.new _ _
  have k2:Kn t g.next (O (N tMb true) (fD y)):=by rw[z];exact Kn.new _ _
  have L0:=k2.ld (q:=0) (x:=iV y.1) rfl;have ab:=c.next;have ac:=M.next;have W:=Ko (p:=λy:Int×Int=>!decide (y.1=box)) hy;by_cases hb:y.1=box
  ·have w:(y.1=box)=True:=eq_true hb;simp only[vvB,a!,reduceCtorEq,↓reduceIte,Nu,Ns,b,f9,a,f1,e1,Q,S2,L0,w];refine⟨qK2 a,qK2 S,v,by simp only[Fa,vvB,a!,reduceCtorEq,↓reduceIte,b,f9,f1,and_self],c.trans M,?_⟩;rw[W];simpa[hb]using o.nw (aK _) M
  ·have w:(y.1=box)=False:=eq_false hb;have Z:((((x.mem.take k).filter λy=>!decide (y.1=box)).map (·.1)).length+1)*8<=140737488355328:=by
    have L:((x.mem.take k).filter λy=>!decide (y.1=box)).length<=(x.mem.take k).length:=H! _ _;rw[j!]at L;rw[k!];omega
   obtain⟨v',g4,e5,o5,c5,n5,-⟩:=(o.nw (aK _) M).app (bt:=8) (x:=y.1) (cs:=gV y.1) (P0:=λ_=>False) (aK _) (by omega) rfl rfl (λj _ q=>q.elim) Z;have e5:cZ iW 1 8 v (.slice t.next 0 1 (.kn 1)) (t.new (O (N iW true) [iV y.1]))=D v' g4:=e5;simp only[vvB,a!,reduceCtorEq,↓reduceIte,Nu,Ns,abx,b,f9,a,f1,e1,Q,S2,L0,w,qX,e5];refine⟨qK2 a,qK2 S,v',by simp only[Fa,vvB,a!,reduceCtorEq,↓reduceIte,f9,f1,and_self],?_,?_⟩
   ·exact(c.trans M).own c5 λj e=>(o.eu e).1
   ·rw[W];simpa[hb]using o5
 ·intro v fr g fa hI;obtain⟨b,a,-⟩:=fa;obtain⟨c,o⟩:=hI;rw[L!]at o;exact⟨v,b,c,o⟩
 ·rintro fr g ⟨v,b,c,o⟩;simp only[vvB,a!,reduceCtorEq,↓reduceIte,abv,b];exact aX.ret (r:=v) (qT0) ⟨o.lower (by omega),c1.trans c⟩
 ·intro fr g q;exact q.elim
theorem afy{x:Int×Int×Ml}{cs:List V}(e:msE P h x cs)(r:x.2.2.keys.length<=1000):∃h',uj [.agg (V.ofList cs)] h=D (K (!lJ x.2.2)) h'/\Nw h h':=by
 obtain⟨vk,vs,rfl,n,s⟩:=e;obtain⟨o,a,b,k⟩:=mkW h (O (N tMs true) (msC x vk vs));have c:=k.ld (q:=6) (x:=vk) rfl;obtain⟨j,e2,i⟩:=CP (n.nw (aK _) b) jR (by omega);rw[anf];simp only[vvB,a!,reduceCtorEq,↓reduceIte,U9,abu,abt,V.dD,<-a,Nat.reduceAdd,c,e2];refine⟨j,by simp only[aU,bW,vvB,a!,reduceCtorEq,↓reduceIte,bZ]<;>rfl,b.trans i⟩
theorem azm{x:Ml}{vk vs:V}(a:vk.noF=true)(b:vs.noF=true):(V.agg (V.ofList (dB x vk vs))).noF=true:=by
 show(V.ofList (dB x vk vs)).noF=true;apply aji;intro v c;simp[dB]at c;rcases c with rfl|rfl|rfl|rfl|rfl|rfl|rfl|rfl<;>first|rfl|assumption
theorem ajG(e:FuncId->Option Fun)(a:e Fv=some uj)(x:V)(g:Hp):dK e (.func (.func Fv) .nil .nil) [x] g=uj [x] g:=by
 show(match e Fv with|some F=>F [x] g|none=>.bad)=_;rw[a]
theorem ayk(x y:V)(p:Pos)(g:Hp):dK aor (.func (.func vS) .nil (.cons (X p 0) .nil)) [x,y] g=Dx [x,y,X p 0] g:=(rfl)
theorem atZ(b:dG h G qs B pl2 f u d C E I){x:Int×Int×Ml}{cs:List V}(e:msE P h x cs)(hx:∀y∈x.2.2.mem,y.1=box)(hm:x.2.2.mem.length<=1000){w w' ab:Wr}{L Cc:List V}(kp:Kn h cp (O w [X ir 0]))(kr:Kn h ir (O w' L))(hL:L[0]?=some (X pc 0))(kc:Kn h pc (O ab Cc))(hC:Cc[1]?=some (X pv 0))(vk:VwK h J pv box had m vw)
  {t:Nat} {y:Ml} (h1:B.aP[t]?=some y) (h2:y.id=x.2.2.id) (h3:B.aP.findIdx? (λz=>decide (z.id=y.id))=some t) (i:DGood B y):
  ∃h' s o n M,Dx [X qs 0,.agg (V.ofList cs),X cp 0] h=D (iV 0) h'/\dG h' s qs (Jl B t y) pl2 f u d o n M/\Ch G h h'/\∀j,s j->G j\/h.next.nat<=j.nat:=by
 obtain⟨a,vs,rfl,rk,rs⟩:=e;obtain⟨Q,S,r,k1⟩:=mkW h (O (N tMs true) (msC x a vs));have P0:=(kp.nw r).ld (q:=0) (x:=X ir 0) rfl;have P1:=(kr.nw r).ld hL;have P2:=(kc.nw r).ld hC;have eB:=arE (vk.ch r λ_ _ q=>q);have Z:∀g,g.get h.next=Q.get h.next->bT 8 (X h.next 2) g=D (.agg (V.ofList (dB x.2.2 a vs))) g:=λg W=>by
  show dP g h.next (λ_ cs=>match gm 8 (fB 2 cs) with|some l=>R.ok (V.agg (V.ofList l)) g|none=>.bad)=_;rw[dM (wr:=N tMs true) (all:=msC x a vs) (by rw[W,k1.1];rfl)];rfl
 have N1:=Z Q rfl;have cN:∀{k:Out},chk (λg=>bT 8 (X h.next 2) g) (.agg (V.ofList (dB x.2.2 a vs))) k 1 [Q]=k:=wG (azm rk.noF rs.noF) N1;obtain⟨ro,g2,e2,o2,c2⟩:=at6 (x:=x.2.2) (vk:=a) (rs.nw (aK _) r) hm box;have aa:((x.2.2.mem.filter λy=>!decide (y.1=box)).map (·.1))= []:=by
  have:x.2.2.mem.filter (λy=>!decide (y.1=box))= []:=List.filter_eq_nil_iff.2 λy hy=>by simp[hx y hy]
  rw[this];rfl
 rw[aa]at o2;have ol:=o2.len g2;have L2:=(k1.nw c2).ld (q:=2) (x:=iV x.2.2.id) rfl;have c:=r.trans c2;obtain⟨g3,s,o,n,M,e3,b3,c3,f3⟩:=arX (b.nw c) i.small i.logged h1 h3 i.inn i.ents i.clock i.oct i.text;rw[h2]at e3;have ac:=c.next;rw[ane];simp(disch:=omega)only[vvB,a!,reduceCtorEq,↓reduceIte,U8,abr,abq,abp,abo,V.dD,<-S,P0,P1,P2,eB,N1,cN,e2,ol,List.length_nil,L2,e3];exact⟨g3,s,o,n,M,by simp only[aU,bW,vvB,a!,reduceCtorEq,↓reduceIte,bZ]<;>rfl,b3,c.ch.trans c3 λ_ _ q=>q,λj q=>(f3 j q).imp id λl=>by omega⟩
end
section
variable{h h' g h0:Hp}{P F I J Z S W I2:Pos->Prop}{ps pl ib pv ir pc im qs cp pl2 p:Pos}{A B C:Acc}{cb E:Cap}{fb d uid only:Bool}{v vm vl vv vw G M:V}{box had:Int}{m:List Mg}{l:List (Int×Int×Ml)}{st:Sn}{L:List V}{s:List Nat}{w:Wds}{bb:Nat}
theorem aAR(a:dG h F ps A pl ib cb fb vm vl I)(hA:A.Small)(r:Rws P msE 10 h v l)(hn:l.length<=1000)(ds:Ds A (l.map (·.2.2)) C)(aw:C.Small)(an:∀x∈l,x.2.2.mem.length<=1000/\∀y∈x.2.2.mem,y.1=box)
  {w1 w2 w3:Wr} {L Cc:List V} (kp:Kn h cp (O w1 [X ir 0])) (kr:Kn h ir (O w2 L)) (hL:L[0]?=some (X pc 0)) (am:L[1]?=some (X ps 0)) (kc:Kn h pc (O w3 Cc)) (hC:Cc[1]?=some (X pv 0)) (vk:VwK h J pv box had m vw):
  ∃h' F' ab aa o Q ad ac I',MV [X ir 0,v,.func (.func vS) .nil (.cons (X cp 0) .nil)] h=D (iV 0) h'/\dG h' F' ps C ab aa o Q ad ac I'/\Ch (λj=>j=ps) h h'/\∀j,F' j->j=ps\/h.next.nat<=j.nat:=by
 obtain⟨h1,qs,F1,az,ay,aq,av,aL,aD,I1,e1,b1,c1,f1⟩:=an5 a hA;have R0:=kr.ld am;have n1:=c1.next;rw[atd]
 suffices T:aX n! [.tmp 6] (λr h'=>r=iV 0/\∃F' ab aa o Q ad ac I',dG h' F' ps C ab aa o Q ad ac I'/\Ch (λj=>j=ps) h h'/\∀j,F' j->j=ps\/h.next.nat<=j.nat)
   (Ug (T.set (some (.func (.func vS) .nil (.cons (X cp 0) .nil))) (c! 2) (T.set (some v) (c! 1) (T.set (some (X ir 0)) (c! 0) T.nil))) h) by
  obtain⟨r,h',e,rfl,F',ab,aa,o,Q,ad,ac,I',q⟩:=T;exact⟨h',F',ab,aa,o,Q,ad,ac,I',e,q⟩
 simp only[vvB,a!,reduceCtorEq,↓reduceIte,Ug,agO,agN,agM,R0,e1,r.len];refine Oc.then (dS (σ:=Unit) (n:=l.length) (pi:=18) (pn:=17) (pc:=19) [0,1,2,7,16] (λ_=> [X ir 0,v,.func (.func vS) .nil (.cons (X cp 0) .nil),X qs 0,v]) (λk _ g=>Nw h g/\∃B W pl2 p E d G M I2,dG g W qs B pl2 p E d G M I2/\(∀j,W j->h.next.nat<=j.nat)/\Ds B ((l.drop k).map (·.2.2)) C)
  (A:=λfr g=>fr.get (c! 0)=some (X ir 0)/\fr.get (c! 7)=some (X qs 0)/\Nw h g/\∃W pl2 p E d G M I2,dG g W qs C pl2 p E d G M I2) (B:=λfr g=>False) (s:=())
  (λfr h _ k e1 e2=>by simp only[vvB,a!,reduceCtorEq,↓reduceIte,agL,e1,e2]) (λfr h k _ e1=>by simp(disch:=omega)only[vvB,a!,reduceCtorEq,↓reduceIte,agH,e1]) (by decide) (by rw[dW];omega) (qK0) (qK0) (by simp only[Fa,vvB,a!,reduceCtorEq,↓reduceIte,and_self]) ⟨c1,A,F1,az,ay,aq,av,aL,aD,I1,b1,f1,by simpa using ds⟩ ?_ ?_) ?_ ?_
 ·intro k _ fr g hk al au fa hI;obtain⟨f0,ak,f2,f7,ag,-⟩:=fa;obtain⟨c,B,W,pl2,p,E,d,G,M,I2,b,ah,af⟩:=hI;obtain⟨x,hx⟩:∃x,l[k]?=some x:=⟨_,b! hk⟩
  have ax:l.drop k=x::l.drop (k+1):=by rw[C! hk];rw[b! hk]at hx;cases hx;rfl
  rw[ax]at af;obtain⟨i,q,cs,e2,ex,ap,-,-,-,e3⟩:=(r.nw gX c).elt hx;have ar:=e3 g rfl;obtain⟨g2,ai⟩:∃g2,g2=g.new (O (N tMs true) cs):=⟨_,rfl⟩
  have S2:aT 10 (X g.next 0) (.agg (V.ofList cs)) (g.new (O (N tMs true) zMs))=D V.undef g2:=by
   rw[ai];have:=iT (h:=g) (t:=tMs) (f:=true) (z:=zMs) (l:=V.ofList cs) (n:=10) (V.dO _) (by rw[V.dD];exact ap) rfl;rw[V.dD]at this;exact this
  have c2:Nw g g2:=by rw[ai];exact Nw.new _ _
  have k2:Kn g2 g.next (O (N tMs true) cs):=by rw[ai];exact Kn.new _ _
  have N2:=k2.ldN ap;have ae:=c.trans c2;have ao:=an x (e! hx);cases af with
  |cons h1 h2 h3 hg aj=>
   obtain⟨g3,F3,aM,aE,I3,e4,b3,c3,f3⟩:=atZ (b.nw c2) (gX ex c2 λj _ q=>⟨q,λq=>q⟩) ao.2 ao.1 (kp.nw ae) (kr.nw ae) hL (kc.nw ae) hC (vk.ch ae λ_ _ q=>q) h1 h2 h3 hg;have n2:=ae.next;simp(disch:=omega)only[vvB,a!,reduceCtorEq,↓reduceIte,agK,agJ,agI,f0,f2,f7,ag,al,e2,ar,S2,N2,ayk,e4];refine⟨qK2 al,qK2 au,(),by simp only[Fa,vvB,a!,reduceCtorEq,↓reduceIte,f0,ak,f2,f7,ag,and_self],ae.then c3 λj hj q=>by have:=ah j q;omega,_,F3,pl2,p,E,d,aM,aE,I3,b3,λj q=>(f3 j q).elim (ah j) λl=>by omega,aj⟩
 ·intro _ fr g fa hI;obtain⟨f0,ak,f2,f7,ag,-⟩:=fa;obtain⟨c,B,W,pl2,p,E,d,G,M,I2,b,ah,af⟩:=hI;rw[List.drop_length]at af;cases af;exact⟨f0,f7,c,W,pl2,p,E,d,G,M,I2,b⟩
 ·rintro fr g ⟨f0,f7,c,W,pl2,p,E,d,G,M,I2,b⟩;have R1:=(kr.nw c).ld am;obtain⟨u,g2,F',ab,aa,o,Q,ad,ac,I',e5,a5,c5,f5⟩:=aDd (a.nw c) b aw;have hn:=c.next;simp only[vvB,a!,reduceCtorEq,↓reduceIte,agG,adx,f0,f7,R1,e5];exact aX.ret (qT0) ⟨rfl,F',ab,aa,o,Q,ad,ac,I',a5,c.ch.trans c5 λ_ _ q=>q,λj q=>(f5 j q).imp id λl=>by omega⟩
 ·intro fr g q;exact q.elim
theorem aj2(q:Rq bb h0 Z h pc im ps ir uid w s st L vw P F J pl ib cb fb vm vl vv I){Pm:Pos->Prop}(r:FU tMs 10 Pm msE h v l)(aj:∀j,Pm j->bH v≠some j/\h0.next.nat<=j.nat)(aa:∀j,bH v=some j->¬OfB ir 5 L j/\¬Ft F J pc im j/\h0.next.nat<=j.nat)(hn:l.length<=1000)(hA:st.acc.Small){ks:Int×Int×List (Int×Int×Int)}(hv:st.vw=some ks)
  (ds:Ds st.acc ((l.filter λx=>lJ x.2.2).map (·.2.2)) C) (ai:C.Small) (k:∀x∈l,x.2.2.keys.length<=1000/\x.2.2.mem.length<=1000/\∀y∈x.2.2.mem,y.1=ks.1):
  ∃h' F' ac ab n t ae ad I',Bg [X ir 0,v] h=D (iV 0) h'/\Rq bb h0 Z h' pc im ps ir uid w s {st with acc:=C} L vw P F' J ac ab n t ae ad vv I'/\Ch (λj=>j=ps\/bH v=some j) h h'/\∀j,F' j->j=ps\/h.next.nat<=j.nat:=by
 obtain⟨h1,ak,c1,k1⟩:=mkW h (O (N tPr true) [X ir 0]);have c:=q.nw c1;have n1:=c1.next;obtain⟨v2,h2,e2,r2,c2,i2⟩:=Ut (f:=.func (.func Fv) .nil .nil) (r.nw gX c1) (λj pj=>(aj j pj).1) (λx=>!lJ x.2.2) hn
  (λa cs g ha _ ⟨Q,e⟩=>by rw[ajG _ rfl];exact afy e (k a ha).1)
  (λa cs g ha _ ⟨Q,e⟩=>by rw[ajG _ rfl];exact afy e (k a ha).1)
 have hf:(l.filter λa=>!!lJ a.2.2)=l.filter λa=>lJ a.2.2:=by simp
 rw[hf]at r2;have al:∀j,bH v=some j->j.nat<h.next.nat:=λj e=>by
  obtain⟨am,a,hw,rr⟩:=r;rcases rr with⟨_,rfl⟩|⟨i,f,rest,rfl,km⟩
  ·cases e
  ·cases e;exact km.2
 have b:Rq bb h0 Z h2 pc im ps ir uid w s st L vw P F J pl ib cb fb vm vl vv I:=
  {bd:=c.bd.chO c2 λj o e=>(aa j e).1 o
   l0:=c.l0
   l1:=c.l1
   l3:=c.l3
   l4:=c.l4
   ws:=c.ws.ch c2 λj _ pj=>⟨pj,λe=>by have:=(c.old j pj).1;have:=c.hbb;have:=(aa j e).2.2;omega⟩
   wd:=c.wd.ch c2 λj f e=>(aa j e).2.1 f
   dis:=c.dis
   old:=c.old
   hbb:=c.hbb
   ob:=c.ob
   foot:=c.foot
   chz:=c.chz.trans c2 λj hj e=>by have:=(aa j e).2.2;omega}
 have k2:Kn h2 h.next (O (N tPr true) [X ir 0]):=k1.ch c2 λe=>by have:=al _ e;omega
 have n2:=c2.next;have K2:=k2.ld (q:=0) (x:=X ir 0) rfl;have af:=b.wd.view;rw[hv]at af;obtain⟨pv,vwr,m,rfl,vk,hm⟩:=af;obtain⟨h3,F',ac,ab,n,t,ae,ad,I',e3,a3,c3,f3⟩:=aAR b.wd.acc hA (r2.rws gX) (Nat.le_trans (H! _ _) hn) ds ai (λx hx=>(k x ((List.mem_filter.1 hx).1)).2) k2 b.kr b.l0 b.l1 b.wd.con rfl vk;have w3:World h3 pc im ps {st with acc:=C} F' J ac ab n t ae ad (X pv 0) I':=by
  have u:=b.wd.fj;have z:=b.wd.acc.foot.1;have c':=c3;refine⟨a3,b.wd.con.ch c' (λe=>(u _ z).2.1 e.symm),b.wd.map.ch c' (λe=>(u _ z).2.2 e.symm),b.wd.view.ch c' (λj f e=>(u _ z).1 (e▸f)),b.wd.ne,λj f=>?_,b.wd.jn⟩;rcases f3 j f with rfl|hl
  ·exact u _ z
  ·have h1:=b.wd.con.2;have h2:=b.wd.map.2;exact⟨λjj=>by have:=b.wd.view.lt j jj;omega,λe=>by rw[e]at hl;omega,λe=>by rw[e]at hl;omega⟩
 have q3:=b.turn w3 c3 (λj e=>.inl (by rw[e];exact b.wd.acc.foot.1)) (λj f=>by
  rcases f with f|f|f|f
  ·rcases f3 j f with rfl|hl
   ·exact .inl (.inl b.wd.acc.foot.1)
   ·exact .inr hl
  ·exact .inl (.inr (.inl f))
  ·exact .inl (.inr (.inr (.inl f)))
  ·exact .inl (.inr (.inr (.inr f))))
 refine⟨h3,F',ac,ab,n,t,ae,ad,I',?_,q3,?_,λj f=>(f3 j f).imp id λl=>by omega⟩
 ·have FF:∀g,eP (.func vS) [] [X h.next 0] g=D (.func (.func vS) .nil (.cons (X h.next 0) .nil)) g:=λg=>rfl;have BB:fO tPr (X ir 0) h=D (X h.next 0) h1:=by rw[ak];rfl
  have ag:jg [v,.func (.func Fv) .nil .nil] h1=D v2 h2:=e2;have ah:MV [X ir 0,v2,.func (.func vS) .nil (.cons (X h.next 0) .nil)] h2=D (iV 0) h3:=e3;rw[ao3];simp only[vvB,a!,reduceCtorEq,↓reduceIte,ZJ,adw,adv,adu,BB,ag,K2,FF,ah];simp only[aU,bW,vvB,a!,reduceCtorEq,↓reduceIte,bZ]
 ·exact((c1.ch (S:=λj=>j=ps\/bH v=some j)).trans (c2.mono λj _ e=>.inr e) λ_ _ q=>q).trans (c3.mono λj _ e=>.inl e) λ_ _ q=>q
end
end Go.Proofs.Im
namespace Go.Im
structure Purges (A:Acc) (ks:Int×Int×List (Int×Int×Int)) (l:List (Int×Int×Ml)) (C:Acc):Prop where
 small:A.Small
 few:ks.2.2.length<=1000
 sub:∀x∈l,x∈fH A.aP ks.1 0 ks.2.2
 len:l.length<=1000
 ds:Ds A ((l.filter λx=>lJ x.2.2).map (·.2.2)) C
 smallC:C.Small
 box:∀x∈fH A.aP ks.1 0 ks.2.2,x.2.2.keys.length<=1000/\x.2.2.mem.length<=1000/\∀y∈x.2.2.mem,y.1=ks.1
end Go.Im
namespace Go.Proofs.Im
section
variable{h h' g h0:Hp}{P F I J Z:Pos->Prop}{ps pl ib pv ir pc im:Pos}{C:Acc}{cb:Cap}{fb uid only:Bool}{v vm vl vv vw:V}{box:Int}{m:List Mg}{l:List (Int×Int×Ml)}{st:Sn}{L:List V}{s:List Nat}{w:Wds}{ks:Int×Int×List (Int×Int×Int)}{bb:Nat}
theorem Rq.apv(q:Rq bb h0 Z h pc im ps ir uid w s st L vw P F J pl ib cb fb vm vl vv I)(g:Hp):aZ 2 vw g=D (Y U (w.len:Int)) g:=q.ws.len g
theorem Rq.messages(q:Rq bb h0 Z h pc im ps ir uid w s st L vw P F J pl ib cb fb vm vl vv I)(d:st.vw=some ks)(c:st.acc.Small)(e:ks.2.2.length<=1000):
  ∃r h',oL [X pc 0,X ps 0] h=D r h'/\gY h.next.nat msE tMs 10 h' r (fH st.acc.aP ks.1 0 ks.2.2)/\Nw h h':=by
 have a:=q.wd.view;rw[d]at a;obtain⟨pv,vwr,m,rfl,vk,b⟩:=a;have:=aoQ q.wd.acc c vk (by have:=congrArg P! b;simp at this;omega) q.wd.con rfl;rw[b]at this;exact this
theorem Rq.ai7(q:Rq bb h0 Z h pc im ps ir uid w s st L vw P F J pl ib cb fb vm vl vv I)(y:st.vw=some ks){b:Nat}(o:gY b msE tMs 10 h v l)(hb:h0.next.nat<=b)(c:∀j,bH v=some j->¬OfB ir 5 L j/\¬Ft F J pc im j)(a:Purges st.acc ks l C):
  ∃h' r k i d f p n u,Bg [X ir 0,v] h=D (iV 0) h'/\Rq bb h0 Z h' pc im ps ir uid w s {st with acc:=C} L vw P r J k i d f p n vv u/\Ch (λj=>j=ps\/bH v=some j) h h'/\∀j,r j->j=ps\/h.next.nat<=j.nat:=
 aj2 q o.aH1 (λj t=>⟨t.2,by have:=t.1;omega⟩) (λj e=>⟨(c j e).1,(c j e).2,by have:=(o.eu e).1;omega⟩) a.len a.small y a.ds a.smallC λx z=>a.box x (a.sub x z)
theorem arZ(q:Rq bb h0 Z h pc im ps ir false w s st L vw P F J pl ib cb fb vm vl vv I)(Q:st.vw=some ks)(ho:st.only=false)(hw:w.len=0)(u:Purges st.acc ks (fH st.acc.aP ks.1 0 ks.2.2) C):
  ∃h',uU [X pc 0,X ir 0] h=D (anV 0 [] false false false) h'/\tZ bb h0 Z vw P h' pc im ps ir false w s {st with acc:=C}:=by
 obtain⟨h1,y,G,S⟩:=mkW h (O (N tA true) zAn);have k:=q.nw G;have z:¬OfB ir 5 L h.next:=λo=>by have:=(o.from q.bd _).2;omega
 have d:¬Ft F J pc im h.next:=λo=>by have:=q.wd.lt _ o;omega
 have n1:=G.next;have hz:=q.chz.next;have R1:=k.kr.ld k.l1;obtain⟨r,h2,e2,o2,p⟩:=k.messages Q u.small u.few;have a:=k.nw p;have k2:=S.nw p;have n2:=p.next;have R4:=a.kr.ld a.l4;have R3:=a.kr.ld a.l3;have E:=a.wd.con.ld (q:=2) (x:=K st.only) rfl;rw[ho]at E;have wl:=a.apv h2;rw[hw]at wl;have ad:=S.2;have c:∀j,bH r=some j->h1.next.nat<=j.nat:=λj e=>(o2.eu e).1;obtain⟨h3,F',ag,af,aa,ab,ai,ah,I',e3,q3,c3,f3⟩:=a.ai7 Q o2 (by omega) (λj e=>⟨λo=>by have:=(o.from k.bd _).2;have:=c j e;omega,λf=>by have:=k.wd.lt _ f;have:=c j e;omega⟩) u;have ae:=a.wd.acc.st.2;have k3:=k2.ch c3 λe=>by
  rcases e with e|e
  ·have:=q.wd.acc.st.2;rw[<-e]at this;omega
  ·have:=c _ e;omega
 obtain⟨t,e4,M⟩:=an7 h3;have W:=k3.nw M;obtain⟨i,b⟩:∃i,i=t.put h.next (some (O (N tA true) (anL 0 [] false false false))):=⟨_,rfl⟩
 have S5:aT 5 (X h.next 0) (anV 0 [] false false false) t=D V.undef i:=by rw[b];exact W.stN rfl rfl
 have k5:Kn i h.next (O (N tA true) (anL 0 [] false false false)):=by rw[b];exact W.put _
 have c5:Ch (λj=>j=h.next) t i:=by rw[b];exact Ch.put _ _ rfl
 have B:¬Ft F' J pc im h.next:=λf=>by
  have ac:=q3.wd.fj;rcases f with f|f|f|f
  ·rcases f3 _ f with e|e
   ·have:=q.wd.acc.st.2;rw[<-e]at this;omega
   ·omega
  ·exact d (.inr (.inl f))
  ·exact d (.inr (.inr (.inl f)))
  ·exact d (.inr (.inr (.inr f)))
 have q5:=(q3.nw M).Tt c5 z B (by omega);refine⟨i,?_,q5.mk'⟩;rw[Ij];simp(disch:=omega)only[vvB,a!,reduceCtorEq,↓reduceIte,Aj,A7,AZ,AY,JD,yZ,GU,<-y,R1,e2,R4,R3,wl,E,e3,e4,S5];simp only[aU,bW,vvB,a!,reduceCtorEq,↓reduceIte,ni,k5.ldN (n:=5) rfl,bZ]
end
end Go.Proofs.Im
namespace Go.Im
abbrev mP:List Nat:= [115,116,97,116,101]
end Go.Im
namespace Go.Proofs.Im
section
variable{h h' h0:Hp}{P F I J Z S:Pos->Prop}{ps pl ib ir pc im a0:Pos}{C:Acc}{cb:Cap}{fb uid only:Bool}{vm vl vv vw:V}{l:List (Int×Int×Ml)}{st:Sn}{L:List V}{s:List Nat}{w:Wds}{ks:Int×Int×List (Int×Int×Int)}{k:Nat}{b:Bx}{bb:Nat}
theorem ar0(q:Rq bb h0 Z h pc im ps ir false w s st L vw P F J pl ib cb fb vm vl vv I)(hv:st.vw=some ks)(ho:st.only=true)(hw:w.len=0)(hA:st.acc.Small)(hk:ks.2.2.length<=1000):
  ∃h',uU [X pc 0,X ir 0] h=D (anV 1 mP false false false) h'/\tZ bb h0 Z vw P h' pc im ps ir false w s st:=by
 obtain⟨h1,m,W,k1⟩:=mkW h (O (N tA true) zAn);have f:=q.nw W;have p:¬OfB ir 5 L h.next:=λo=>by have:=(o.from q.bd _).2;omega
 have t:¬Ft F J pc im h.next:=λo=>by have:=q.wd.lt _ o;omega
 have hz:=q.chz.next;have E:=f.kr.ld f.l1;obtain⟨r,i,e2,o2,v⟩:=f.messages hv hA hk;have c:=f.nw v;have k2:=k1.nw v;have M:=c.kr.ld c.l4;have G:=c.kr.ld c.l3;have u:=c.wd.con.ld (q:=2) (x:=K st.only) rfl;rw[ho]at u;have B:=c.apv i;rw[hw]at B;obtain⟨e,g,y⟩:=apL i;have g:Us [] i=D (anV 1 mP false false false) e:=g;have z:=k2.nw y;obtain⟨d,a⟩:∃d,d=e.put h.next (some (O (N tA true) (anL 1 mP false false false))):=⟨_,rfl⟩
 have Q:aT 5 (X h.next 0) (anV 1 mP false false false) e=D V.undef d:=by rw[a];exact z.stN rfl rfl
 have k5:Kn d h.next (O (N tA true) (anL 1 mP false false false)):=by rw[a];exact z.put _
 have c5:Ch (λj=>j=h.next) e d:=by rw[a];exact Ch.put _ _ rfl
 have q5:=(c.nw y).Tt c5 p t (by omega);refine⟨d,?_,q5.mk'⟩;rw[Ij];simp(disch:=omega)only[vvB,a!,reduceCtorEq,↓reduceIte,Aj,A7,AZ,AY,JD,yZ,TY,<-m,E,e2,M,G,B,u,g,Q];simp only[aU,bW,vvB,a!,reduceCtorEq,↓reduceIte,ni,k5.ldN (n:=5) rfl,bZ]
theorem Rq.leave(q:Rq bb h0 Z h pc im ps ir uid w s st L vw P F J pl ib cb fb vm vl vv I):∃n i,aT 1 (X pc 1) .bP h=D V.undef n/\aT 1 (X pc 2) (K false) n=D V.undef i/\Rq bb h0 Z i pc im ps ir uid w s {st with only:=false,vw:=none} L vw P F (λ_=>False) pl ib cb fb vm vl .bP I/\Ch (λj=>j=pc) h i:=by
 obtain⟨c,a⟩:∃c,c=({st with only:=false,vw:=none}:Sn):=⟨_,rfl⟩
 have p:aT 1 (X pc 1) .bP h=D V.undef (h.put pc (some (O (N tCn true) [K st.inn,.bP,K st.only,iV st.cnt,.map im]))):=q.wd.con.st (q:=1) (y:=.bP) ⟨rfl,rfl⟩ (by simp);obtain⟨g,d⟩:∃g,g=h.put pc (some (O (N tCn true) [K c.inn,.bP,K c.only,iV c.cnt,.map im])):=⟨_,rfl⟩
 have r:aT 1 (X pc 2) (K false) (h.put pc (some (O (N tCn true) [K st.inn,.bP,K st.only,iV st.cnt,.map im])))=D V.undef g:=by
  rw[(q.wd.con.put (O (N tCn true) [K st.inn,.bP,K st.only,iV st.cnt,.map im])).st (q:=2) (y:=K false) ⟨rfl,rfl⟩ (by simp),aew,d,a];rfl
 have t:World g pc im ps c F (λ_=>False) pl ib cb fb vm vl .bP I:=by
  rw[d];exact q.wd.acT (by rw[a]) (by rw[a];exact⟨rfl,λ_ q=>q⟩) λ_ q=>q.elim
 have m:Ch (λj=>j=pc) h g:=by rw[d];exact Ch.put _ _ rfl
 have o:=q.turn t m (λj e=>.inr (.inr (.inl e))) λj f=>by
  rcases f with f|f|f|f
  ·exact .inl (.inl f)
  ·exact f.elim
  ·exact .inl (.inr (.inr (.inl f)))
  ·exact .inl (.inr (.inr (.inr f)))
 refine⟨_,g,p,r,?_,m⟩;rw[a]at o;exact o
theorem ayx(q:Rq bb h0 Z h pc im ps ir uid w s st L vw P F J pl ib cb fb vm vl vv I)(M:st.vw=some ks)(ho:st.only=false)(hw:w.len=0)(t:Purges st.acc ks (fH st.acc.aP ks.1 0 ks.2.2) C):
  ∃h',Io [X pc 0,X ir 0] h=D (anV 0 [] false true false) h'/\tZ bb h0 Z vw P h' pc im ps ir uid w s {st with acc:=C,only:=false,vw:=none}:=by
 obtain⟨G,u,E,Q⟩:=mkW h (O (N tA true) zAn);have a:=q.nw E;have y:¬OfB ir 5 L h.next:=λo=>by have:=(o.from q.bd _).2;omega
 have i:¬Ft F J pc im h.next:=λo=>by have:=q.wd.lt _ o;omega
 have n1:=E.next;have hz:=q.chz.next;have R1:=a.kr.ld a.l1;have R3:=a.kr.ld a.l3;have wl:=a.apv G;rw[hw]at wl;have B:=a.wd.con.ld (q:=2) (x:=K st.only) rfl;rw[ho]at B;obtain⟨r,h2,e2,o2,m⟩:=a.messages M t.small t.few;have q2:=a.nw m;have k2:=Q.nw m;have n2:=m.next;have ac:=Q.2;have d:∀j,bH r=some j->G.next.nat<=j.nat:=λj e=>(o2.eu e).1;obtain⟨h3,F',af,ae,aa,ab,ah,ag,I',e3,q3,c3,f3⟩:=q2.ai7 M o2 (by omega) (λj e=>⟨λo=>by have:=(o.from a.bd _).2;have:=d j e;omega,λf=>by have:=a.wd.lt _ f;have:=d j e;omega⟩) t;have ad:=q2.wd.acc.st.2;have v:=q.wd.con.2;have k3:=k2.ch c3 λe=>by
  rcases e with e|e
  ·have:=q.wd.acc.st.2;rw[<-e]at this;omega
  ·have:=d _ e;omega
 obtain⟨h4,p,S4,S5,q5,c5⟩:=q3.leave;have W:=k3.ch c5 λe=>by rw[<-e]at v;omega
 obtain⟨g,c⟩:∃g,g=p.put h.next (some (O (N tA true) (anL 0 [] false true false))):=⟨_,rfl⟩
 have S6:aT 5 (X h.next 0) (anV 0 [] false true false) p=D V.undef g:=by rw[c];exact W.stN rfl rfl
 have k6:Kn g h.next (O (N tA true) (anL 0 [] false true false)):=by rw[c];exact W.put _
 have c6:Ch (λj=>j=h.next) p g:=by rw[c];exact Ch.put _ _ rfl
 have z:¬Ft F' (λ_=>False) pc im h.next:=λf=>by
  rcases f with f|f|f|f
  ·rcases f3 _ f with e|e
   ·have:=q.wd.acc.st.2;rw[<-e]at this;omega
   ·omega
  ·exact f
  ·exact i (.inr (.inr (.inl f)))
  ·exact i (.inr (.inr (.inr f)))
 have q6:=q5.Tt c6 y z (by omega);refine⟨g,?_,q6.mk'⟩;rw[abL];simp(disch:=omega)only[vvB,a!,reduceCtorEq,↓reduceIte,OX,Rz,Ry,Rx,adz,ady,Rw,Rt,<-u,R1,R3,wl,B,e2,e3,S4,S5,aIv,S6];simp only[aU,bW,vvB,a!,reduceCtorEq,↓reduceIte,ni,k6.ldN (n:=5) rfl,bZ]
theorem ar2(q:Rq bb h0 Z h pc im ps ir uid w s st L vw P F J pl ib cb fb vm vl vv I)(ho:st.only=true)(hw:w.len=0):
  ∃h',Io [X pc 0,X ir 0] h=D (anV 0 [] false true false) h'/\tZ bb h0 Z vw P h' pc im ps ir uid w s {st with only:=false,vw:=none}:=by
 obtain⟨h1,m,M,k1⟩:=mkW h (O (N tA true) zAn);have g:=q.nw M;have r:¬OfB ir 5 L h.next:=λo=>by have:=(o.from q.bd _).2;omega
 have c:¬Ft F J pc im h.next:=λo=>by have:=q.wd.lt _ o;omega
 have hz:=q.chz.next;have z:=g.kr.ld g.l3;have y:=g.apv h1;rw[hw]at y;have u:=g.wd.con.ld (q:=2) (x:=K st.only) rfl;rw[ho]at u;have p:=q.wd.con.2;obtain⟨h4,i,B,E,q5,Q⟩:=g.leave;have v:=k1.ch Q λe=>by rw[<-e]at p;omega
 obtain⟨d,a⟩:∃d,d=i.put h.next (some (O (N tA true) (anL 0 [] false true false))):=⟨_,rfl⟩
 have G:aT 5 (X h.next 0) (anV 0 [] false true false) i=D V.undef d:=by rw[a];exact v.stN rfl rfl
 have k6:Kn d h.next (O (N tA true) (anL 0 [] false true false)):=by rw[a];exact v.put _
 have W:Ch (λj=>j=h.next) i d:=by rw[a];exact Ch.put _ _ rfl
 have t:¬Ft F (λ_=>False) pc im h.next:=λf=>by
  rcases f with f|f|f|f
  ·exact c (.inl f)
  ·exact f
  ·exact c (.inr (.inr (.inl f)))
  ·exact c (.inr (.inr (.inr f)))
 have q6:=q5.Tt W r t (by omega);refine⟨d,?_,q6.mk'⟩;rw[abL];simp(disch:=omega)only[vvB,a!,reduceCtorEq,↓reduceIte,OX,Rz,Ry,Rx,Rw,Rt,<-m,z,y,u,B,E,aIv,G];simp only[aU,bW,vvB,a!,reduceCtorEq,↓reduceIte,ni,k6.ldN (n:=5) rfl,bZ]
theorem Rq.away(q:Rq bb h0 Z h pc im ps ir uid w s st L vw P F J pl ib cb fb vm vl vv I):¬(Ft F J pc im h.next\/OfB ir 5 L h.next):=λe=>e.elim (λf=>by have:=q.wd.lt _ f;omega) λo=>by have:=(o.from q.bd _).2;omega
theorem Rq.fin(q:Rq bb h0 Z h pc im ps ir uid w s st L vw P F J pl ib cb fb vm vl vv I){d:Hp}{a:Bool}{z:Wds}{s2:List Nat}{st2:Sn}(r:tZ bb h (λj=>Ft F J pc im j\/OfB ir 5 L j) vw P d pc im ps ir a z s2 st2)(Q:Kn h a0 (O (N tA true) zAn))(g:¬(Ft F J pc im a0\/OfB ir 5 L a0))(hb:h0.next.nat<=a0.nat)(c:List V)(hl:c.length=5):
  ∃n,aT 5 (X a0 0) (.agg (V.ofList c)) d=D V.undef n/\Kn n a0 (O (N tA true) c)/\tZ bb h0 Z vw P n pc im ps ir a z s2 st2:=by
 have aa:=Q.2;obtain⟨r0,c2⟩:=q.comp r;obtain⟨G,B,E,u,t,i,m,x,v,y,W,r1⟩:=r;have M:=Q.ch c2 g;have no:¬OfB ir 5 G a0:=λo=>(r1.ob _ o).elim g λl=>by omega
 have nf:¬Ft B E pc im a0:=λf=>(r1.foot _ f).elim g λl=>by omega
 have p:∀j,(Ft F J pc im j\/OfB ir 5 L j)\/h.next.nat<=j.nat->Z j\/h0.next.nat<=j.nat:=λj e=>by
  rcases e with(e|e)|e
  ·exact q.foot j e
  ·exact q.ob j e
  ·have:=q.chz.next;exact .inr (by omega)
 have r2:Rq bb h0 Z d pc im ps ir a z s2 st2 G vw P B E u t i m x v y W:=
  {bd:=r1.bd
   hbb:=q.hbb
   ob:=λj o=>p j (r1.ob j o)
   l0:=r1.l0
   l1:=r1.l1
   l3:=r1.l3
   l4:=r1.l4
   ws:=r1.ws
   wd:=r1.wd
   dis:=r1.dis
   old:=q.old
   foot:=λj f=>p j (r1.foot j f)
   chz:=q.chz.trans r1.chz λj hj e=>(p j (.inl e)).resolve_right (by omega)}
 refine⟨d.put a0 (some (O (N tA true) c)),M.stN hl rfl,M.put _,?_⟩;exact(r2.Tt (Ch.put (S:=λj=>j=a0) _ _ rfl) no nf hb).mk'
theorem aAP(q:Rq bb h0 Z h pc im ps ir uid w s st L vw P F J pl ib cb fb vm vl vv I)(d:w.len=1)(f:mO w= [iL])(e:DI w=false)(r:CanBox st.acc k b)(a:s.length<=100000):
  ∃h',Un [X pc 0,X ir 0] h=D (anV 0 rwS false true false) h'/\
   tZ bb h0 Z vw P h' pc im ps ir uid w (s++lK (Wn st.acc.aP b.id).length b.valid b.next st.acc.clock) {st with only:=false,vw:=some (dJ st.acc b.id)}:=by
 obtain⟨m,c,j,t⟩:=mkW h (O (N tA true) zAn);have g:=q.nw j;obtain⟨o,e2,r2⟩:=aoC g.ai5 false d f e r a;obtain⟨p,i,u,v⟩:=g.fin r2 t q.away q.chz.next (anL 0 rwS false true false) rfl;refine⟨p,?_,v⟩;have e2:um [X pc 0,X ir 0,K false] m=D (anV 0 rwS false true false) o:=e2
 rw[atb];simp(disch:=omega)only[vvB,a!,reduceCtorEq,↓reduceIte,adY,agz,agy,<-c,e2,i];simp only[aU,bW,vvB,a!,reduceCtorEq,↓reduceIte,ni,u.ldN (n:=5) rfl,bZ]
theorem ar1(q:Rq bb h0 Z h pc im ps ir uid w s st L vw P F J pl ib cb fb vm vl vv I)(d:w.len=1)(f:mO w= [iL])(e:DI w=false)(r:CanBox st.acc k b)(a:s.length<=100000):
  ∃h',Il [X pc 0,X ir 0] h=D (anV 0 roS false true false) h'/\
   tZ bb h0 Z vw P h' pc im ps ir uid w (s++lK (Wn st.acc.aP b.id).length b.valid b.next st.acc.clock) {st with only:=true,vw:=some (dJ st.acc b.id)}:=by
 obtain⟨m,c,j,t⟩:=mkW h (O (N tA true) zAn);have g:=q.nw j;obtain⟨o,e2,r2⟩:=aoC g.ai5 true d f e r a;obtain⟨p,i,u,v⟩:=g.fin r2 t q.away q.chz.next (anL 0 roS false true false) rfl;refine⟨p,?_,v⟩;have e2:um [X pc 0,X ir 0,K true] m=D (anV 0 roS false true false) o:=e2
 rw[alz];simp(disch:=omega)only[vvB,a!,reduceCtorEq,↓reduceIte,RZ,Xt,Xr,<-c,e2,i];simp only[aU,bW,vvB,a!,reduceCtorEq,↓reduceIte,ni,u.ldN (n:=5) rfl,bZ]
end
end Go.Proofs.Im
namespace Go.Im
def AL(name:List Nat):List (List Nat×Nat×Nat×Bool)->Option (Nat×Nat×Bool)
 | []=>none
 |c::l=>if name=c.1 then some c.2 else AL name l
theorem ajz(f:Nat×Nat×Bool->V)(name:List Nat):∀l:List (List Nat×Nat×Nat×Bool),wu (H name) (l.map λc=>(H c.1,f c.2))=some ((AL name l).map f)
 | []=>rfl
 |c::l=>by
  have b:iI (H name) (H c.1)=some (decide (name=c.1)):=by show some (jW name c.1)=_;rw[acf]
  simp only[g!,wu,b,AL];by_cases h:name=c.1
  ·simp[h]
  ·simp[h,ajz f name l]
abbrev ahi:List Nat:= [117,105,100]
end Go.Im
namespace Go.Proofs.Im
section
variable{bb:Nat}{h h' h0:Hp}{P F I J Z:Pos->Prop}{ps pl ib pv ir pc im a0:Pos}{cb:Cap}{fb uid only u:Bool}{vm vl vv vw:V}{st st2:Sn}{L a:List V}{s s2 nm:List Nat}{w:Wds}{f n:Nat}
theorem anN{h:Hp}(b:h.get im=some (.map (gy pc)))(z:V)(name:List Nat):
  VT .string true z (.map im) (H name) h=D (.tuple (.cons (((AL name QN).map (ayg pc)).getD z) (.cons (K (AL name QN).isSome) .nil))) h:=by
 show(match h.get im with|some (.map es)=>ajn true z (H name) es h|_=>.bad)=_;rw[b];simp only[ajn,gy,ajz];cases AL name QN<;>rfl
def Cmd(f:Nat)(bb:Nat)(pc im ps ir:Pos)(uid:Bool)(w:Wds)(s:List Nat)(st:Sn)(vw:V)(P:Pos->Prop)(a:List V)(s2:List Nat)(st2:Sn):Prop:=
 ∀(h0:Hp) (Z:Pos->Prop) (h:Hp) (L:List V) (F J:Pos->Prop) (pl ib:Pos) (cb:Cap) (fb:Bool) (vm vl vv:V) (I:Pos->Prop),Rq bb h0 Z h pc im ps ir uid w s st L vw P F J pl ib cb fb vm vl vv I->
  ∃b,dK aAX (.func (.func f) (.cons (X pc 0) .nil) .nil) [X ir 0] h=D (.agg (V.ofList a)) b/\tZ bb h0 Z vw P b pc im ps ir uid w s2 st2
def aqL(n:Nat)(st:Sn):Prop:=n=0\/(n=1/\st.inn=false)\/(n=2/\st.inn=true)\/(n=3/\st.vw≠none)
def axr:Go.Vm.F->Hp->Out:=(aB (aB Ad (bK 0 (aB Ac (aV (.tmp 63) adN (aB Aa (aV (.tmp 70) adM (aB zZ (aV (.tmp 76) Ub v!)))))))) (aB (aB zY (aV (.tmp 84) (aB adL D!) v!)) (aB EW D!)))
def ahp:Go.Vm.F->Hp->Out:=aB RP (aB (aB RN (aV (.tmp 59) (aB asB D!) v!)) (aB RJ axr))
theorem ad6:asH=aB Af (aB (aB Ae (aV (.tmp 11) (aB (aB JS (aV (.tmp 17) (aB RQ D!) v!)) (aB JR JQ)) v!)) ahp):=rfl
def RunT(bb:Nat)(h0:Hp)(Z:Pos->Prop)(vw:V)(P:Pos->Prop)(pc im ps ir:Pos)(uid:Bool)(w:Wds)(a:List V)(s2:List Nat)(st2:Sn)(r:V)(h':Hp):Prop:=r=.agg (V.ofList a)/\tZ bb h0 Z vw P h' pc im ps ir uid w s2 st2
theorem auN(q:Rq bb h0 Z h pc im ps ir uid w s st L vw P F J pl ib cb fb vm vl vv I)(ka:Kn h a0 (O (N tA true) zAn))(aw:¬(Ft F J pc im a0\/OfB ir 5 L a0))(ha:h0.next.nat<=a0.nat)(hf:AL nm QN=some (f,n,u))(hu:uid=true->u=true)(hm:aqL n st)(hc:Cmd f bb pc im ps ir uid w s st vw P a s2 st2)(hl:a.length=5)
  {fr:Go.Vm.F} (f0:fr.get (c! 0)=some (X pc 0)) (f1:fr.get (c! 1)=some (X ir 0)) (f2:fr.get (c! 2)=some (H nm)) (b:fr.get (c! 6)=some (X a0 0)):
  aX n! [.cell 6 tA] (RunT bb h0 Z vw P pc im ps ir uid w a s2 st2) (ahp fr h):=by
 obtain⟨d,g⟩:∃d,d=(h.new (O (N alH true) [.fV,Y U 0,K false])).put h.next (some (O (N alH true) [.func (.func f) (.cons (X pc 0) .nil) .nil,Y U (n:Int),K u])):=⟨_,rfl⟩
 have S:Nw h d:=by rw[g];exact Pq _ _ _
 have z:Kn d h.next (O (N alH true) [.func (.func f) (.cons (X pc 0) .nil) .nil,Y U (n:Int),K u]):=by rw[g];exact(Kn.new h _).put _
 have i:=q.nw S;have E:=ka.nw S;obtain⟨h2,e2,r2⟩:=hc _ _ _ _ _ _ _ _ _ _ _ _ _ _ i.ai5;obtain⟨h3,l,k3,r3⟩:=i.fin r2 E aw ha a hl;have G:=q.wd.con.ld (q:=4) (x:=.map im) rfl;have y:=anN q.wd.map.1 (.agg (.cons .fV (.cons (Y U 0) (.cons (K false) .nil)))) nm;rw[hf]at y;simp only[Option.map_some,Option.getD_some,Option.isSome_some,ayg]at y;have Q:=z.ld (q:=2) (x:=K u) rfl;have p:=z.ld (q:=1) (x:=Y U (n:Int)) rfl;have m:=z.ld (q:=0) (x:=.func (.func f) (.cons (X pc 0) .nil) .nil) rfl;have k:=i.wd.con.ld (q:=0) (x:=K st.inn) rfl;have W:=i.wd.con.ld (q:=1) (x:=vv) rfl;have M:=i.kr.ld i.l4;have C:st.vw≠none->∃pv,vv=X pv 0:=λB=>by
  have:=q.wd.view;cases v:st.vw with
  |none=>exact absurd v B
  |some o=>rw[v]at this;obtain⟨pv,_,_,e,_⟩:=this;exact⟨pv,e⟩
 have rest:∀fr:Go.Vm.F,fr.get (c! 0)=some (X pc 0)->fr.get (c! 1)=some (X ir 0)->fr.get (c! 6)=some (X a0 0)->fr.get (c! 7)=some (X h.next 0)->fr.get (c! 9)=some (K true)->aX n! [.cell 6 tA] (RunT bb h0 Z vw P pc im ps ir uid w a s2 st2) (axr fr d):=by
  clear f0 f1 f2 b;intro fr f0 f1 b r t;unfold axr;have ret:∀fr:Go.Vm.F,fr.get (c! 6)=some (X a0 0)->aX n! [.cell 6 tA] (RunT bb h0 Z vw P pc im ps ir uid w a s2 st2) (.ret fr h3):=λfr b=>
   aX.ret (by simp only[bW,vvB,a!,reduceCtorEq,↓reduceIte,b,ni,k3.ldN (n:=5) hl,bZ]) ⟨rfl,r3⟩
  rcases hm with rfl|⟨rfl,hi⟩|⟨rfl,hi⟩|⟨rfl,v⟩
  ·have c:aF (X h.next 1) d=D (Y U 0) d:=p;simp(disch:=omega)only[vvB,a!,reduceCtorEq,↓reduceIte,Ad,Ac,Aa,zZ,zY,EW,f0,f1,b,r,t,c,m,e2,l,x!];exact ret _ (qK2 b)
  ·have c:aF (X h.next 1) d=D (Y U 1) d:=p;rw[hi]at k;simp(disch:=omega)only[vvB,a!,reduceCtorEq,↓reduceIte,Ad,Ac,adN,Aa,zZ,zY,EW,f0,f1,b,r,t,c,m,k,e2,l,x!];exact ret _ (qK2 b)
  ·have c:aF (X h.next 1) d=D (Y U 2) d:=p;rw[hi]at k;simp(disch:=omega)only[vvB,a!,reduceCtorEq,↓reduceIte,Ad,Ac,Aa,adM,zZ,zY,EW,f0,f1,b,r,t,c,m,k,e2,l,x!];exact ret _ (qK2 b)
  ·have c:aF (X h.next 1) d=D (Y U 3) d:=p;obtain⟨pv,rfl⟩:=C v;simp(disch:=omega)only[vvB,a!,reduceCtorEq,↓reduceIte,Ad,Ac,Aa,zZ,Ub,zY,EW,f0,f1,b,r,t,c,m,W,atz,e2,l,x!];exact ret _ (qK2 b)
 unfold ahp;cases uid with
 |false=>
  simp(disch:=omega)only[vvB,a!,reduceCtorEq,↓reduceIte,RP,RN,RJ,f0,f1,f2,b,G,y,Pg,apN (dR _ _),<-g,M];exact rest _ (qK2 f0) (qK2 f1) (qK2 b) (qK0) (qK0)
 |true=>
  have j:=hu rfl;rw[j]at Q g;simp(disch:=omega)only[vvB,a!,reduceCtorEq,↓reduceIte,RP,RN,RJ,f0,f1,f2,b,G,y,j,Pg,apN (dR _ _),<-g,M,Q];exact rest _ (qK2 f0) (qK2 f1) (qK2 b) (qK0) (qK0)
theorem run_go(q:Rq bb h0 Z h pc im ps ir false w s st L vw P F J pl ib cb fb vm vl vv I)(c:nm≠ahi)(k:AL nm QN=some (f,n,u))(l:aqL n st)(j:Cmd f bb pc im ps ir false w s st vw P a s2 st2)(hl:a.length=5):
  ∃h',SQ [X pc 0,X ir 0,H nm] h=D (.agg (V.ofList a)) h'/\tZ bb h0 Z vw P h' pc im ps ir false w s2 st2:=by
 obtain⟨p,b,d,m⟩:=mkW h (O (N tA true) zAn);have o:=q.nw d;have g:(nm= [117,105,100])=False:=eq_false c;rw[aem,ad6]
 suffices i:aX n! [.cell 6 tA] (RunT bb h0 Z vw P pc im ps ir false w a s2 st2)
   (aB Af (aB (aB Ae (aV (.tmp 11) (aB (aB JS (aV (.tmp 17) (aB RQ D!) v!)) (aB JR JQ)) v!)) ahp) (T.set (some (H nm)) (c! 2) (T.set (some (X ir 0)) (c! 1) (T.set (some (X pc 0)) (c! 0) T.nil))) h) by
  obtain⟨r,h',e,rfl,q⟩:=i;exact⟨h',e,q⟩
 simp(disch:=omega)only[vvB,a!,reduceCtorEq,↓reduceIte,g,Af,Ae,<-b];exact auN o m q.away q.chz.next k (λe=>by cases e) l j hl (qK0) (qK0) (qK0) (qK0)
end
end Go.Proofs.Im
