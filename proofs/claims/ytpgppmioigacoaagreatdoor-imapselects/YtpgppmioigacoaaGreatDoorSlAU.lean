/- Part of the value machine, or of a walk by it: lemmas that the claim's last text uses. No conditions. -/
import Derived.Test.YtpgppmioigacoaaGreatDoorSlAT
set_option linter.unusedVariables false
set_option linter.unusedSimpArgs false
set_option linter.unnecessarySimpa false
noncomputable section
namespace Go.Im
open Go Go.Vm Go.Ln
theorem Y7(t:TypeId)(a b c:List Nat)(h:Hp):bI t [.str [],.str [],.str []] 3 [(0,1,.str a),(1,1,.str b),(2,1,.str c)] h=.ok (.slice h.next 0 3 (.kn 3)) (h.new (.cells (.rw t true) [.str a,.str b,.str c])):=(rfl)
theorem sZ{n:Nat}(hn:n<100):(eP n).length≤2∧(∀c∈eP n,c<256)∧eP n≠ []:=by
 unfold eP
 split
 ·rename_i h
  have:n<10:=by simpa [Nat.blt_eq] using h
  exact⟨by simp,by simp;omega,by simp⟩
 ·exact⟨by simp,by simp;omega,by simp⟩
def lineS(l:List (List Nat)):List Nat:=dV [32] l++ [13,10]
abbrev avI:List Nat:= [42,32,70,76,65,71,83,32,40,92,65,110,115,119,101,114,101,100,32,92,70,108,97,103,103,101,100,32,92,68,101,108,101,116,101,100,32,92,83,101,101,110,32,92,68,114,97,102,116,41]
abbrev ahT:List Nat:= [69,88,73,83,84,83]
abbrev apI:List Nat:= [42,32,48,32,82,69,67,69,78,84]
abbrev aez:List Nat:= [42,32,79,75,32,91,85,73,68,86,65,76,73,68,73,84,89,32]
abbrev amT:List Nat:= [42,32,79,75,32,91,85,73,68,78,69,88,84,32]
abbrev avj:List Nat:= [42,32,79,75,32,91,72,73,71,72,69,83,84,77,79,68,83,69,81,32]
abbrev roS:List Nat:= [82,69,65,68,45,79,78,76,89]
abbrev rwS:List Nat:= [82,69,65,68,45,87,82,73,84,69]
def jK(n:Nat)(valid next clock:Int):List Nat:=
 lineS [avI]++(lineS [[42],eP n,ahT]++(lineS [apI]++(lineS [aez++eP valid.toNat++ [93]]++(lineS [amT++eP next.toNat++ [93]]++lineS [avj++eP clock.toNat++ [93]]))))
def gX(A:Acc)(box:Int):Int×Int×List (Int×Int×Int):=(box,afa (Wn A.mails box),(Wn A.mails box).map thK)
structure CanBox (A:Acc) (k:Nat) (b:Bx):Prop where
 small:A.Small
 top:TopB A.boxes
 at_:A.boxes[k]?=some b
 named:iM A.boxes jS=some b
 sorted:(Wn A.mails b.id).Pairwise fun x y=>x.1<y.1
 few:(Wn A.mails b.id).length<50
 valid:0≤b.valid∧b.valid<100
 next:0≤b.next∧b.next<100
 clock:A.clock<100
theorem CanBox.has{A:Acc}{k:Nat}{b:Bx}(c:CanBox A k b):(A.boxes.any fun x=>decide (x.id=b.id))=true:=
 List.any_eq_true.2 ⟨b,List.mem_of_getElem? c.at_,decide_eq_true rfl⟩
end Go.Im
namespace Go.Proofs.Im
open Go Go.Proofs Go.Vm Go.Ln Go.Im
set_option maxRecDepth 100000
variable{h h' g h0:Hp}{P F I J Z S:Pos→Prop}{ps pl ib p pv ir pc im a0:Pos}{cb:Cap}{fb uid only:Bool}{v vm vl vv vw:V}{st:Sn}{L:List V}{s:List Nat}{w:Wds}{o:Ob}{k:Nat}{b:Bx}{bb:Nat}
theorem keepA{L L':List V}(c':Stp (OfB ir 5 L) h (OfB ir 5 L') h')(ka:Kn h a0 o)(na:¬OfB ir 5 L a0):Kn h' a0 o∧¬OfB ir 5 L' a0:=
 ⟨ka.ch c'.ch na,fun o=>(c'.sub _ o).elim na fun l=>by have:=ka.2;omega⟩
theorem Rq.atG(q:Rq bb h0 Z h pc im ps ir uid w s st L vw P F J pl ib cb fb vm vl vv I)(c:Ch (fun j=>j=a0) h h')(na:¬OfB ir 5 L a0)(nf:¬Ft F J pc im a0)(hb:h0.next.nat≤a0.nat):Rq bb h0 Z h' pc im ps ir uid w s st L vw P F J pl ib cb fb vm vl vv I where
 bd:=q.bd.chO c fun j o e=>na (e▸o)
 l0:=q.l0
 l1:=q.l1
 l3:=q.l3
 l4:=q.l4
 ws:=q.ws.ch c fun j _ p=>⟨p,fun e=>by have h1:=(q.old j p).1;have h2:=q.hbb;rw [e] at h1;omega⟩
 wd:=q.wd.ch c fun j f e=>nf (e▸f)
 dis:=q.dis
 old:=q.old
 hbb:=q.hbb
 ob:=q.ob
 foot:=q.foot
 chz:=q.chz.trans c fun j hj e=>by rw [e] at hj;omega
theorem asU(q:Rq bb h0 Z h pc im ps ir uid w s st L vw P F J pl ib cb fb vm vl vv I)(only:Bool){nm:List Nat}(hNm:Nm nm)(hw1:w.len=1)(hwt:kK w= [nm])(hwl:xH w=false)(hC:CanBox st.acc k b)(hlen:s.length≤100000):
  ∃h',qI [.ptr pc 0,.ptr ir 0,.bool only] h=.ok (anV 0 (if only=true then roS else rwS) false true false) h'∧
   zF bb h0 Z vw P h' pc im ps ir uid w (s++jK (Wn st.acc.mails b.id).length b.valid b.next st.acc.clock) {st with only:=only,vw:=some (gX st.acc b.id)}:=by
 obtain⟨h1,hh1,c1,k1⟩:=mkW h (.cells (.rw tA true) zAn)
 have q1:=q.nw c1
 have na1:¬OfB ir 5 L h.next:=fun o=>by have:=(o.from q.bd _).2;omega
 have nf1:¬Ft F J pc im h.next:=fun o=>by have:=q.wd.lt _ o;omega
 have e2:=akx (n:=1) q1.bd q1.l3 q1.ws (by omega)
 obtain⟨r2,h2,e2,c2,hN⟩:=e2
 have e2':XJ [.ptr ir 0,.int .i64 1] h1=.ok r2 h2:=e2
 obtain⟨v,rfl,ov,hid⟩:∃v,r2=.tuple (.cons v (.cons (.bool true) .nil))∧Ow 0 h2 9 1 v 1 ([nm].map V.str)∧∀j,aX v=some j→h1.next.nat≤j.nat:=by
  rcases hN with⟨hL,-⟩|⟨-,v,rfl,ov,hid⟩
  ·rw [hwl] at hL;cases hL
  ·rw [hw1,hwt] at ov
   exact⟨v,by rw [decide_eq_true hw1],ov,hid⟩
 obtain⟨iv,fv,hv,kv,hiv⟩:∃iv fv,v=.slice iv 0 1 (.un 1)∧Kn h2 iv (.cells (.rw 9 fv) [.str nm])∧h1.next.nat≤iv.nat:=by
  rcases ov.is with⟨h0,_⟩|⟨i,e,hb,hi,f,hg⟩
  ·omega
  ·exact⟨i,f,e,⟨hg,hi⟩,hid i (by rw [e];rfl)⟩
 have ix:∀g,bU 1 v (.int .i64 0) g=.ok (.ptr iv 0) g:=fun g=>by rw [hv];rfl
 have c2':Nw h1 h2:=c2
 have q2:=q1.nw c2'
 have k2:=k1.nw c2'
 have n1:=c1.next
 have n2:=c2'.next
 have hpc:=q.wd.con.2
 have him:=q.wd.map.2
 obtain⟨st4,hst4⟩:∃st4,st4=({st with only:=false,vw:=none}:Sn):=⟨_,rfl⟩
 have S3:=q2.wd.con.st (q:=1) (y:=.bY) ⟨rfl,rfl⟩ (by simp)
 have S3':aO 1 (.ptr pc 1) .bY h2=.ok V.undef (h2.put pc (some (.cells (.rw tCn true) [.bool st.inn,.bY,.bool st.only,iV st.cnt,.map im]))):=S3
 obtain⟨h4,hh4⟩:∃h4,h4=h2.put pc (some (.cells (.rw tCn true) [.bool st4.inn,.bY,.bool st4.only,iV st4.cnt,.map im])):=⟨_,rfl⟩
 have S4:aO 1 (.ptr pc 2) (.bool false) (h2.put pc (some (.cells (.rw tCn true) [.bool st.inn,.bY,.bool st.only,iV st.cnt,.map im])))=.ok V.undef h4:=by
  rw [(q2.wd.con.put (.cells (.rw tCn true) [.bool st.inn,.bY,.bool st.only,iV st.cnt,.map im])).st (q:=2) (y:=.bool false) ⟨rfl,rfl⟩ (by simp),ahz,hh4,hst4];rfl
 have w4:World h4 pc im ps st4 F (fun _=>False) pl ib cb fb vm vl .bY I:=by
  rw [hh4];exact q2.wd.afg (by rw [hst4]) (by rw [hst4];exact⟨rfl,fun _ q=>q⟩) fun _ q=>q.elim
 have c4:Ch (fun j=>j=pc) h2 h4:=by rw [hh4];exact Ch.put _ _ rfl
 have q4:=q2.turn w4 c4 (fun j e=>.inr (.inr (.inl e))) fun j f=>by
  rcases f with f|f|f|f
  ·exact .inl (.inl f)
  ·exact f.elim
  ·exact .inl (.inr (.inr (.inl f)))
  ·exact .inl (.inr (.inr (.inr f)))
 have n4:=c4.next
 have k4:=k2.ch c4 fun e=>by rw [←e] at hpc;omega
 have kv4:=kv.ch c4 fun e=>by rw [←e] at hpc;omega
 have hacc4:st4.acc=st.acc:=by rw [hst4]
 have V4:=kv4.ld (q:=0) (x:=.str nm) rfl
 have R1:∀{h:Hp} {s:List Nat} {st:Sn} {L:List V} {F J I:Pos→Prop} {pl ib:Pos} {cb:Cap} {fb:Bool} {vm vl vv:V},Rq bb h0 Z h pc im ps ir uid w s st L vw P F J pl ib cb fb vm vl vv I→aF (.ptr ir 1) h=.ok (.ptr ps 0) h:=fun q=>q.kr.ld q.l1
 obtain⟨h5,e5,c5⟩:=aGz q4.wd.acc (by rw [hacc4];exact hC.small) (by rw [hacc4];exact hC.top) q4.kr q4.l1 hNm (by rw [hacc4];exact hC.named)
 have q5:=q4.nw c5
 have k5:=k4.nw c5
 have n5:=c5.next
 obtain⟨pv,h6,vv6,l6,e6,vg,c6,hl6⟩:=aIv q5.wd.acc (by rw [hacc4];exact hC.small) (box:=b.id) (by rw [hacc4];exact hC.sorted) (by rw [hacc4];exact hC.few) (by rw [hacc4];exact hC.has)
 rw [hacc4] at vg hl6
 have n6:=c6.next
 obtain⟨st8,hst8⟩:∃st8,st8=({st with only:=only,vw:=some (gX st.acc b.id)}:Sn):=⟨_,rfl⟩
 have w6:=q5.wd.ch c6 fun _ _ q=>q
 have S7:aO 1 (.ptr pc 1) (.ptr pv 0) h6=.ok V.undef (h6.put pc (some (.cells (.rw tCn true) [.bool st4.inn,.ptr pv 0,.bool st4.only,iV st4.cnt,.map im]))):=w6.con.st (q:=1) (y:=.ptr pv 0) ⟨rfl,rfl⟩ (by simp)
 obtain⟨h8,hh8⟩:∃h8,h8=h6.put pc (some (.cells (.rw tCn true) [.bool st8.inn,.ptr pv 0,.bool st8.only,iV st8.cnt,.map im])):=⟨_,rfl⟩
 have S8:aO 1 (.ptr pc 2) (.bool only) (h6.put pc (some (.cells (.rw tCn true) [.bool st4.inn,.ptr pv 0,.bool st4.only,iV st4.cnt,.map im])))=.ok V.undef h8:=by
  rw [(w6.con.put (.cells (.rw tCn true) [.bool st4.inn,.ptr pv 0,.bool st4.only,iV st4.cnt,.map im])).st (q:=2) (y:=.bool only) ⟨rfl,rfl⟩ (by simp),ahz,hh8,hst8,hst4];rfl
 have hv6:=vg.vwr
 have w8:World h8 pc im ps st8 F (fun j=>h5.next.nat≤j.nat∧j.nat<h6.next.nat) pl ib cb fb vm vl (.ptr pv 0) I:=by
  rw [hh8]
  exact w6.afg (by rw [hst8,hacc4]) (by rw [hst8];exact⟨pv,vv6,l6,rfl,hv6,hl6⟩) fun j q=>⟨fun f=>by have:=q5.wd.acc.lt j f;omega,fun e=>by rw [e] at q;omega,fun e=>by rw [e] at q;omega⟩
 have c58:Ch (fun j=>j=pc) h5 h8:=by rw [hh8];exact c6.ch.trans (Ch.put (S:=fun j=>j=pc) _ _ rfl) fun _ _ q=>q
 have q8:=q5.turn w8 c58 (fun j e=>.inr (.inr (.inl e))) fun j f=>by
  rcases f with f|f|f|f
  ·exact .inl (.inl f)
  ·exact .inr f.1
  ·exact .inl (.inr (.inr (.inl f)))
  ·exact .inl (.inr (.inr (.inr f)))
 have k8:=k5.ch c58 fun e=>by rw [←e] at hpc;omega
 have hacc8:st8.acc=st.acc:=by rw [hst8]
 have n8:=c58.next
 obtain⟨h9,e9,c9⟩:=aIO q8.wd.acc (by rw [hacc8];exact hC.small) (by rw [hacc8];exact hC.top) q8.kr q8.l1 (by rw [hacc8];exact hC.at_)
 obtain⟨h10,hh10⟩:∃h10,h10=h9.new (.cells (.rw tBx true) (fQ b)):=⟨_,rfl⟩
 have S10:aO 6 (.ptr h9.next 0) (.agg (V.ofList (fQ b))) (h9.new (.cells (.rw tBx true) [(.int .i64 0),(.str []),(.int .i64 0),(.int .i64 0),(.int .i64 0),(.int .i64 0)]))=.ok V.undef h10:=by rw [hh10];exact iF (V.dO _) rfl rfl
 have c10:Nw h9 h10:=by rw [hh10];exact Nw.new _ _
 have kb10:Kn h10 h9.next (.cells (.rw tBx true) (fQ b)):=by rw [hh10];exact Kn.new _ _
 have q10:=(q8.nw c9).nw c10
 have k10:=(k8.nw c9).nw c10
 have n9:=c9.next
 have n10:=c10.next
 have nb10:¬OfB ir 5 L h9.next:=fun o=>by have:=(o.from (q8.nw c9).bd _).2;omega
 obtain⟨u11,h11,L11,e11,q11,p11⟩:=q10.say (el:=9) [avI] (n:=1) rfl (by omega) (by decide) (by decide) (.inl (by omega)) (by simp [dV];omega)
 simp only [List.map_cons,List.map_nil] at e11
 obtain⟨k11,na11⟩:=keepA p11 k10 na1
 obtain⟨kb11,nb11⟩:=keepA p11 kb10 nb10
 have hvw11:=q11.wd.view
 rw [hst8] at hvw11
 obtain⟨pv',vw11,m11,hpv,vk11,hm11⟩:=hvw11
 cases hpv
 have P11:=q11.wd.con.ld (q:=1) (x:=.ptr pv 0) rfl
 have hml:m11.length=(Wn st.acc.mails b.id).length:=by have:=congrArg List.length hm11;simpa [gX] using this
 have hfew:=hC.few
 obtain⟨r12,h12,e12,o12,c12⟩:=ar5 vk11 (by omega)
 have D12:=WU (n:=(Wn st.acc.mails b.id).length) (by omega)
 have l12:=o12.len h12
 rw [List.length_map,hml] at l12
 have q12:=q11.nw c12
 have d12:=sZ (n:=(Wn st.acc.mails b.id).length) (by omega)
 obtain⟨u13,h13,L13,e13,q13,p13⟩:=q12.say (el:=9) [[42],eP (Wn st.acc.mails b.id).length,ahT] (n:=3) rfl (by omega) (by simp [iO];omega) (by
  intro t ht;simp at ht;rcases ht with rfl|rfl|rfl
  ·decide
  ·exact d12.2.1
  ·decide) (.inr (by simp [dV])) (by simp [dV];omega)
 simp only [List.map_cons,List.map_nil] at e13
 obtain⟨k13,na13⟩:=keepA p13 (k11.nw c12) na11
 obtain⟨kb13,nb13⟩:=keepA p13 (kb11.nw c12) nb11
 obtain⟨u14,h14,L14,e14,q14,p14⟩:=q13.say (el:=9) [apI] (n:=1) rfl (by omega) (by decide) (by decide) (.inl (by omega)) (by simp [dV];omega)
 simp only [List.map_cons,List.map_nil] at e14
 obtain⟨k14,na14⟩:=keepA p14 k13 na13
 obtain⟨kb14,nb14⟩:=keepA p14 kb13 nb13
 have hval:=hC.valid
 have hnx:=hC.next
 have hcl:=hC.clock
 have hcl0:=hC.small.clock
 have D14:=aqe hval.1 hval.2
 have B14:=kb14.ld (q:=3) (x:=iV b.valid) rfl
 have d14:=sZ (n:=b.valid.toNat) (by omega)
 have Sa:∀(x y:List Nat) (g:Hp),x.length+y.length<1000→aI .add .none (.str x) (.str y) g=.ok (.str (x++y)) g:=fun x y g hl=>dH (by omega)
 have A14:=fun g=>Sa aez (eP b.valid.toNat) g (by simp;omega)
 have A14':=fun g=>Sa (aez++eP b.valid.toNat) [93] g (by simp;omega)
 obtain⟨u15,h15,L15,e15,q15,p15⟩:=q14.say (el:=9) [aez++eP b.valid.toNat++ [93]] (n:=1) rfl (by omega) (by simp [iO];omega) (by
  intro t ht;simp only [List.mem_singleton] at ht;subst ht
  intro c hc;rw [List.mem_append,List.mem_append] at hc
  rcases hc with(hc|hc)|hc
  ·revert c;decide
  ·exact d14.2.1 c hc
  ·revert c;decide) (.inl (by omega)) (by simp [dV];omega)
 simp only [List.map_cons,List.map_nil] at e15
 obtain⟨k15,na15⟩:=keepA p15 k14 na14
 obtain⟨kb15,nb15⟩:=keepA p15 kb14 nb14
 have D15:=aqe hnx.1 hnx.2
 have B15:=kb15.ld (q:=4) (x:=iV b.next) rfl
 have d15:=sZ (n:=b.next.toNat) (by omega)
 have A15:=fun g=>Sa amT (eP b.next.toNat) g (by simp;omega)
 have A15':=fun g=>Sa (amT++eP b.next.toNat) [93] g (by simp;omega)
 obtain⟨u16,h16,L16,e16,q16,p16⟩:=q15.say (el:=9) [amT++eP b.next.toNat++ [93]] (n:=1) rfl (by omega) (by simp [iO];omega) (by
  intro t ht;simp only [List.mem_singleton] at ht;subst ht
  intro c hc;rw [List.mem_append,List.mem_append] at hc
  rcases hc with(hc|hc)|hc
  ·revert c;decide
  ·exact d15.2.1 c hc
  ·revert c;decide) (.inl (by omega)) (by simp [dV];omega)
 simp only [List.map_cons,List.map_nil] at e16
 obtain⟨k16,na16⟩:=keepA p16 k15 na15
 have D16:=aqe hcl0.1 hcl
 have C16:=anP q16.wd.acc
 rw [hacc8] at C16
 have d16:=sZ (n:=st.acc.clock.toNat) (by omega)
 have A16:=fun g=>Sa avj (eP st.acc.clock.toNat) g (by simp;omega)
 have A16':=fun g=>Sa (avj++eP st.acc.clock.toNat) [93] g (by simp;omega)
 obtain⟨u17,h17,L17,e17,q17,p17⟩:=q16.say (el:=9) [avj++eP st.acc.clock.toNat++ [93]] (n:=1) rfl (by omega) (by simp [iO];omega) (by
  intro t ht;simp only [List.mem_singleton] at ht;subst ht
  intro c hc;rw [List.mem_append,List.mem_append] at hc
  rcases hc with(hc|hc)|hc
  ·revert c;decide
  ·exact d16.2.1 c hc
  ·revert c;decide) (.inl (by omega)) (by simp [dV];omega)
 simp only [List.map_cons,List.map_nil] at e17
 obtain⟨k17,na17⟩:=keepA p17 k16 na16
 obtain⟨an,han⟩:∃an,an=anL 0 (if only=true then roS else rwS) false true false:=⟨_,rfl⟩
 obtain⟨h18,hh18⟩:∃h18,h18=h17.put h.next (some (.cells (.rw tA true) an)):=⟨_,rfl⟩
 have S18:aO 5 (.ptr h.next 0) (.agg (V.ofList an)) h17=.ok V.undef h18:=by rw [hh18];exact k17.stN (by rw [han];rfl) rfl
 have k18:Kn h18 h.next (.cells (.rw tA true) an):=by rw [hh18];exact k17.put _
 have c18:Ch (fun j=>j=h.next) h17 h18:=by rw [hh18];exact Ch.put _ _ rfl
 have hchz:h0.next.nat≤h.next.nat:=q.chz.next
 have nf17:¬Ft F (fun j=>h5.next.nat≤j.nat∧j.nat<h6.next.nat) pc im h.next:=fun f=>by
  rcases f with f|f|f|f
  ·exact nf1 (.inl f)
  ·have:=k1.2;omega
  ·exact nf1 (.inr (.inr (.inl f)))
  ·exact nf1 (.inr (.inr (.inr f)))
 have q18:=q17.atG c18 na17 nf17 hchz
 have fin:zF bb h0 Z vw P h18 pc im ps ir uid w (s++jK (Wn st.acc.mails b.id).length b.valid b.next st.acc.clock) {st with only:=only,vw:=some (gX st.acc b.id)}:=by
  have:=q18.mk'
  rw [hst8] at this
  have ht:s++jK (Wn st.acc.mails b.id).length b.valid b.next st.acc.clock=(((((s++(dV [32] [avI]++ [13,10]))++(dV [32] [[42],eP (Wn st.acc.mails b.id).length,ahT]++ [13,10]))++(dV [32] [apI]++ [13,10]))++(dV [32] [aez++eP b.valid.toNat++ [93]]++ [13,10]))++(dV [32] [amT++eP b.next.toNat++ [93]]++ [13,10]))++(dV [32] [avj++eP st.acc.clock.toNat++ [93]]++ [13,10]):=by
   simp only [jK,lineS,List.append_assoc]
  rw [ht];exact this
 rw [aau]
 cases only with
 |true=>
  have B18:=aNU roS h17
  have S18':aO 5 (.ptr h.next 0) (anV 0 roS false true false) h17=.ok V.undef h18:=by rw [han] at S18;exact S18
  simp (disch:=omega) only [vvB,Nat.reduceEqDiff,reduceCtorEq,↓reduceIte,EN,Fh,Fe,Fb,E8,kQ,EZ,Q5,QZ,MO,MN,ML,MK,MJ,MI,MH,MG,aac,
   ←hh1,e2',S3',S4,ix,V4,e5,R1 q5,e6,S7,S8,e9,S10,qK,Y7,e11,P11,e12,l12,D12,e13,e14,B14,D14,A14,A14',e15,B15,D15,A15,A15',e16,R1 q16,C16,D16,A16,A16',e17,B18,S18']
  exact⟨h18,by rw [han] at k18;simp only [aT,bD,vvB,Nat.reduceEqDiff,reduceCtorEq,↓reduceIte,qR,k18.ldN (n:=5) rfl,bF],fin⟩
 |false=>
  have B18:=aNU rwS h17
  have S18':aO 5 (.ptr h.next 0) (anV 0 rwS false true false) h17=.ok V.undef h18:=by rw [han] at S18;exact S18
  simp (disch:=omega) only [vvB,Nat.reduceEqDiff,reduceCtorEq,↓reduceIte,EN,Fh,Fe,Fb,E8,kQ,EZ,Q5,QZ,MO,MN,ML,MK,MJ,MI,MH,MG,Z9,
   ←hh1,e2',S3',S4,ix,V4,e5,R1 q5,e6,S7,S8,e9,S10,qK,Y7,e11,P11,e12,l12,D12,e13,e14,B14,D14,A14,A14',e15,B15,D15,A15,A15',e16,R1 q16,C16,D16,A16,A16',e17,B18,S18']
  exact⟨h18,by rw [han] at k18;simp only [aT,bD,vvB,Nat.reduceEqDiff,reduceCtorEq,↓reduceIte,qR,k18.ldN (n:=5) rfl,bF],fin⟩
end Go.Proofs.Im

noncomputable section
namespace Go.Im
open Go Go.Vm Go.Ln
abbrev Ur:List Nat:= [115,116,97,116,101]
end Go.Im
namespace Go.Proofs.Im
open Go Go.Proofs Go.Vm Go.Ln Go.Im
set_option maxRecDepth 100000
variable{h h' h0:Hp}{P F I J Z S:Pos→Prop}{ps pl ib ir pc im a0:Pos}{cb:Cap}{fb uid only:Bool}{vm vl vv vw:V}{l:List (Int×Int×Ml)}{st:Sn}{L:List V}{s:List Nat}{w:Wds}{k:Nat}{b:Bx}{bb:Nat}
theorem Rq.leave(q:Rq bb h0 Z h pc im ps ir uid w s st L vw P F J pl ib cb fb vm vl vv I):∃h1 h2,aO 1 (.ptr pc 1) .bY h=.ok V.undef h1∧aO 1 (.ptr pc 2) (.bool false) h1=.ok V.undef h2∧Rq bb h0 Z h2 pc im ps ir uid w s {st with only:=false,vw:=none} L vw P F (fun _=>False) pl ib cb fb vm vl .bY I∧Ch (fun j=>j=pc) h h2:=by
 obtain⟨st4,hst4⟩:∃st4,st4=({st with only:=false,vw:=none}:Sn):=⟨_,rfl⟩
 have S3:aO 1 (.ptr pc 1) .bY h=.ok V.undef (h.put pc (some (.cells (.rw tCn true) [.bool st.inn,.bY,.bool st.only,iV st.cnt,.map im]))):=q.wd.con.st (q:=1) (y:=.bY) ⟨rfl,rfl⟩ (by simp)
 obtain⟨h4,hh4⟩:∃h4,h4=h.put pc (some (.cells (.rw tCn true) [.bool st4.inn,.bY,.bool st4.only,iV st4.cnt,.map im])):=⟨_,rfl⟩
 have S4:aO 1 (.ptr pc 2) (.bool false) (h.put pc (some (.cells (.rw tCn true) [.bool st.inn,.bY,.bool st.only,iV st.cnt,.map im])))=.ok V.undef h4:=by
  rw [(q.wd.con.put (.cells (.rw tCn true) [.bool st.inn,.bY,.bool st.only,iV st.cnt,.map im])).st (q:=2) (y:=.bool false) ⟨rfl,rfl⟩ (by simp),ahz,hh4,hst4];rfl
 have w4:World h4 pc im ps st4 F (fun _=>False) pl ib cb fb vm vl .bY I:=by
  rw [hh4];exact q.wd.afg (by rw [hst4]) (by rw [hst4];exact⟨rfl,fun _ q=>q⟩) fun _ q=>q.elim
 have c4:Ch (fun j=>j=pc) h h4:=by rw [hh4];exact Ch.put _ _ rfl
 have q4:=q.turn w4 c4 (fun j e=>.inr (.inr (.inl e))) fun j f=>by
  rcases f with f|f|f|f
  ·exact .inl (.inl f)
  ·exact f.elim
  ·exact .inl (.inr (.inr (.inl f)))
  ·exact .inl (.inr (.inr (.inr f)))
 refine⟨_,h4,S3,S4,?_,c4⟩
 rw [hst4] at q4;exact q4
theorem Rq.away(q:Rq bb h0 Z h pc im ps ir uid w s st L vw P F J pl ib cb fb vm vl vv I):¬(Ft F J pc im h.next∨OfB ir 5 L h.next):=fun e=>e.elim (fun f=>by have:=q.wd.lt _ f;omega) fun o=>by have:=(o.from q.bd _).2;omega
theorem Rq.fin(q:Rq bb h0 Z h pc im ps ir uid w s st L vw P F J pl ib cb fb vm vl vv I){h2:Hp}{uid2:Bool}{w2:Wds}{s2:List Nat}{st2:Sn}(r:zF bb h (fun j=>Ft F J pc im j∨OfB ir 5 L j) vw P h2 pc im ps ir uid2 w2 s2 st2)(ka:Kn h a0 (.cells (.rw tA true) zAn))(aw:¬(Ft F J pc im a0∨OfB ir 5 L a0))(hb:h0.next.nat≤a0.nat)(an:List V)(hl:an.length=5):
  ∃h3,aO 5 (.ptr a0 0) (.agg (V.ofList an)) h2=.ok V.undef h3∧Kn h3 a0 (.cells (.rw tA true) an)∧zF bb h0 Z vw P h3 pc im ps ir uid2 w2 s2 st2:=by
 have hlt:=ka.2
 obtain⟨r0,c2⟩:=q.comp r
 obtain⟨L',F',J',pl',ib',cb',fb',vm',vl',vv',I',r1⟩:=r
 have k2:=ka.ch c2 aw
 have no:¬OfB ir 5 L' a0:=fun o=>(r1.ob _ o).elim aw fun l=>by omega
 have nf:¬Ft F' J' pc im a0:=fun f=>(r1.foot _ f).elim aw fun l=>by omega
 have hz:∀j,(Ft F J pc im j∨OfB ir 5 L j)∨h.next.nat≤j.nat→Z j∨h0.next.nat≤j.nat:=fun j e=>by
  rcases e with(e|e)|e
  ·exact q.foot j e
  ·exact q.ob j e
  ·have:=q.chz.next;exact .inr (by omega)
 have r2:Rq bb h0 Z h2 pc im ps ir uid2 w2 s2 st2 L' vw P F' J' pl' ib' cb' fb' vm' vl' vv' I':=
  {bd:=r1.bd
   hbb:=q.hbb
   ob:=fun j o=>hz j (r1.ob j o)
   l0:=r1.l0
   l1:=r1.l1
   l3:=r1.l3
   l4:=r1.l4
   ws:=r1.ws
   wd:=r1.wd
   dis:=r1.dis
   old:=q.old
   foot:=fun j f=>hz j (r1.foot j f)
   chz:=q.chz.trans r1.chz fun j hj e=>(hz j (.inl e)).resolve_right (by omega)}
 refine⟨h2.put a0 (some (.cells (.rw tA true) an)),k2.stN hl rfl,k2.put _,?_⟩
 exact(r2.atG (Ch.put (S:=fun j=>j=a0) _ _ rfl) no nf hb).mk'
theorem asn(q:Rq bb h0 Z h pc im ps ir uid w s st L vw P F J pl ib cb fb vm vl vv I){nm:List Nat}(hNm:Nm nm)(hw1:w.len=1)(hwt:kK w= [nm])(hwl:xH w=false)(hC:CanBox st.acc k b)(hlen:s.length≤100000):
  ∃h',PW [.ptr pc 0,.ptr ir 0] h=.ok (anV 0 rwS false true false) h'∧
   zF bb h0 Z vw P h' pc im ps ir uid w (s++jK (Wn st.acc.mails b.id).length b.valid b.next st.acc.clock) {st with only:=false,vw:=some (gX st.acc b.id)}:=by
 obtain⟨h1,hh1,c1,k1⟩:=mkW h (.cells (.rw tA true) zAn)
 have q1:=q.nw c1
 obtain⟨h2,e2,r2⟩:=asU q1.Y3 false hNm hw1 hwt hwl hC hlen
 obtain⟨h3,S3,k3,r3⟩:=q1.fin r2 k1 q.away q.chz.next (anL 0 rwS false true false) rfl
 refine⟨h3,?_,r3⟩
 have e2:qI [.ptr pc 0,.ptr ir 0,.bool false] h1=.ok (anV 0 rwS false true false) h2:=e2
 rw [ahm]
 simp (disch:=omega) only [vvB,Nat.reduceEqDiff,reduceCtorEq,↓reduceIte,Xw,Yx,Yw,←hh1,e2,S3]
 simp only [aT,bD,vvB,Nat.reduceEqDiff,reduceCtorEq,↓reduceIte,qR,k3.ldN (n:=5) rfl,bF]
theorem axC(q:Rq bb h0 Z h pc im ps ir uid w s st L vw P F J pl ib cb fb vm vl vv I){nm:List Nat}(hNm:Nm nm)(hw1:w.len=1)(hwt:kK w= [nm])(hwl:xH w=false)(hC:CanBox st.acc k b)(hlen:s.length≤100000):
  ∃h',C9 [.ptr pc 0,.ptr ir 0] h=.ok (anV 0 roS false true false) h'∧
   zF bb h0 Z vw P h' pc im ps ir uid w (s++jK (Wn st.acc.mails b.id).length b.valid b.next st.acc.clock) {st with only:=true,vw:=some (gX st.acc b.id)}:=by
 obtain⟨h1,hh1,c1,k1⟩:=mkW h (.cells (.rw tA true) zAn)
 have q1:=q.nw c1
 obtain⟨h2,e2,r2⟩:=asU q1.Y3 true hNm hw1 hwt hwl hC hlen
 obtain⟨h3,S3,k3,r3⟩:=q1.fin r2 k1 q.away q.chz.next (anL 0 roS false true false) rfl
 refine⟨h3,?_,r3⟩
 have e2:qI [.ptr pc 0,.ptr ir 0,.bool true] h1=.ok (anV 0 roS false true false) h2:=e2
 rw [XH]
 simp (disch:=omega) only [vvB,Nat.reduceEqDiff,reduceCtorEq,↓reduceIte,Jv,MF,MC,←hh1,e2,S3]
 simp only [aT,bD,vvB,Nat.reduceEqDiff,reduceCtorEq,↓reduceIte,qR,k3.ldN (n:=5) rfl,bF]
end Go.Proofs.Im

noncomputable section
namespace Go.Im
open Go Go.Vm Go.Ln
def H8(name:List Nat):List (List Nat×Nat×Nat×Bool)→Option (Nat×Nat×Bool)
 | []=>none
 |c::l=>if name=c.1 then some c.2 else H8 name l
theorem anb(f:Nat×Nat×Bool→V)(name:List Nat):∀l:List (List Nat×Nat×Nat×Bool),xK (.str name) (l.map fun c=>(V.str c.1,f c.2))=some ((H8 name l).map f)
 | []=>rfl
 |c::l=>by
  have hk:iR (.str name) (.str c.1)=some (decide (name=c.1)):=by show some (jX name c.1)=_;rw [WJ]
  simp only [List.map_cons,xK,hk,H8]
  by_cases h:name=c.1
  ·simp [h]
  ·simp [h,anb f name l]
abbrev aCy:List Nat:= [117,105,100]
end Go.Im
namespace Go.Proofs.Im
open Go Go.Proofs Go.Vm Go.Ln Go.Im
set_option maxRecDepth 100000
variable{bb:Nat}{h h' h0:Hp}{P F I J Z:Pos→Prop}{ps pl ib pv ir pc im a0:Pos}{cb:Cap}{fb uid only u:Bool}{vm vl vv vw:V}{st st2:Sn}{L an:List V}{s s2 nm:List Nat}{w:Wds}{f n:Nat}
theorem arN{h:Hp}(hg:h.get im=some (.map (gQ pc)))(z:V)(name:List Nat):
  Y6 .string true z (.map im) (.str name) h=.ok (.tuple (.cons (((H8 name abd).map (aDy pc)).getD z) (.cons (.bool (H8 name abd).isSome) .nil))) h:=by
 show(match h.get im with|some (.map es)=>am0 true z (.str name) es h|_=>.bad)=_
 rw [hg]
 simp only [am0,gQ,anb]
 cases H8 name abd<;>rfl
def Cmd(f:Nat)(bb:Nat)(pc im ps ir:Pos)(uid:Bool)(w:Wds)(s:List Nat)(st:Sn)(vw:V)(P:Pos→Prop)(an:List V)(s2:List Nat)(st2:Sn):Prop:=
 ∀(h0:Hp) (Z:Pos→Prop) (h:Hp) (L:List V) (F J:Pos→Prop) (pl ib:Pos) (cb:Cap) (fb:Bool) (vm vl vv:V) (I:Pos→Prop),Rq bb h0 Z h pc im ps ir uid w s st L vw P F J pl ib cb fb vm vl vv I→
  ∃h2,dX aGG (.func (.func f) (.cons (.ptr pc 0) .nil) .nil) [.ptr ir 0] h=.ok (.agg (V.ofList an)) h2∧zF bb h0 Z vw P h2 pc im ps ir uid w s2 st2
def aHK(n:Nat)(st:Sn):Prop:=n=0∨(n=1∧st.inn=false)∨(n=2∧st.inn=true)∨(n=3∧st.vw≠none)
def aCH:Go.Vm.F→Hp→Out:=(aB (aB CO (bP 0 (aB CJ (aV (.tmp 63) agV (aB CG (aV (.tmp 70) agU (aB CB (aV (.tmp 76) Xr Out.nor)))))))) (aB (aB Cm (aV (.tmp 84) (aB agT Out.ret) Out.nor)) (aB Ho Out.ret)))
def apE:Go.Vm.F→Hp→Out:=aB VR (aB (aB VQ (aV (.tmp 59) (aB ax6 Out.ret) Out.nor)) (aB VP aCH))
theorem asI:ayc=aB MS (aB (aB MR (aV (.tmp 11) (aB (aB ab6 (aV (.tmp 17) (aB ab5 Out.ret) Out.nor)) (aB ab4 ab3)) Out.nor)) apE):=rfl
def RunT(bb:Nat)(h0:Hp)(Z:Pos→Prop)(vw:V)(P:Pos→Prop)(pc im ps ir:Pos)(uid:Bool)(w:Wds)(an:List V)(s2:List Nat)(st2:Sn)(r:V)(h':Hp):Prop:=r=.agg (V.ofList an)∧zF bb h0 Z vw P h' pc im ps ir uid w s2 st2
theorem aJA(q:Rq bb h0 Z h pc im ps ir uid w s st L vw P F J pl ib cb fb vm vl vv I)(ka:Kn h a0 (.cells (.rw tA true) zAn))(aw:¬(Ft F J pc im a0∨OfB ir 5 L a0))(ha:h0.next.nat≤a0.nat)(hf:H8 nm abd=some (f,n,u))(hu:uid=true→u=true)(hm:aHK n st)(hc:Cmd f bb pc im ps ir uid w s st vw P an s2 st2)(hl:an.length=5)
  {fr:Go.Vm.F} (f0:fr.get (Pos.of 0)=some (.ptr pc 0)) (f1:fr.get (Pos.of 1)=some (.ptr ir 0)) (f2:fr.get (Pos.of 2)=some (.str nm)) (f6:fr.get (Pos.of 6)=some (.ptr a0 0)):
  aU Tryz.prog [.cell 6 tA] (RunT bb h0 Z vw P pc im ps ir uid w an s2 st2) (apE fr h):=by
 obtain⟨h1,hh1⟩:∃h1,h1=(h.new (.cells (.rw apB true) [.gG,.int .i64 0,.bool false])).put h.next (some (.cells (.rw apB true) [.func (.func f) (.cons (.ptr pc 0) .nil) .nil,.int .i64 (n:Int),.bool u])):=⟨_,rfl⟩
 have c1:Nw h h1:=by rw [hh1];exact TW _ _ _
 have g1:Kn h1 h.next (.cells (.rw apB true) [.func (.func f) (.cons (.ptr pc 0) .nil) .nil,.int .i64 (n:Int),.bool u]):=by rw [hh1];exact(Kn.new h _).put _
 have q1:=q.nw c1
 have ka1:=ka.nw c1
 obtain⟨h2,e2,r2⟩:=hc _ _ _ _ _ _ _ _ _ _ _ _ _ _ q1.Y3
 obtain⟨h3,S3,k3,r3⟩:=q1.fin r2 ka1 aw ha an hl
 have P4:=q.wd.con.ld (q:=4) (x:=.map im) rfl
 have lk:=arN q.wd.map.1 (.agg (.cons .gG (.cons (.int .i64 0) (.cons (.bool false) .nil)))) nm
 rw [hf] at lk
 simp only [Option.map_some,Option.getD_some,Option.isSome_some,aDy] at lk
 have X2:=g1.ld (q:=2) (x:=.bool u) rfl
 have X1:=g1.ld (q:=1) (x:=.int .i64 (n:Int)) rfl
 have X0:=g1.ld (q:=0) (x:=.func (.func f) (.cons (.ptr pc 0) .nil) .nil) rfl
 have C0:=q1.wd.con.ld (q:=0) (x:=.bool st.inn) rfl
 have C1:=q1.wd.con.ld (q:=1) (x:=vv) rfl
 have U1:=q1.kr.ld q1.l4
 have hvv:st.vw≠none→∃pv,vv=.ptr pv 0:=fun hne=>by
  have:=q.wd.view
  cases hv:st.vw with
  |none=>exact absurd hv hne
  |some o=>rw [hv] at this;obtain⟨pv,_,_,e,_⟩:=this;exact⟨pv,e⟩
 have rest:∀fr:Go.Vm.F,fr.get (Pos.of 0)=some (.ptr pc 0)→fr.get (Pos.of 1)=some (.ptr ir 0)→fr.get (Pos.of 6)=some (.ptr a0 0)→fr.get (Pos.of 7)=some (.ptr h.next 0)→fr.get (Pos.of 9)=some (.bool true)→aU Tryz.prog [.cell 6 tA] (RunT bb h0 Z vw P pc im ps ir uid w an s2 st2) (aCH fr h1):=by
  clear f0 f1 f2 f6
  intro fr f0 f1 f6 f7 f9
  unfold aCH
  have ret:∀fr:Go.Vm.F,fr.get (Pos.of 6)=some (.ptr a0 0)→aU Tryz.prog [.cell 6 tA] (RunT bb h0 Z vw P pc im ps ir uid w an s2 st2) (.ret fr h3):=fun fr f6=>
   aU.ret (by simp only [bD,vvB,Nat.reduceEqDiff,reduceCtorEq,↓reduceIte,f6,qR,k3.ldN (n:=5) hl,bF]) ⟨rfl,r3⟩
  rcases hm with rfl|⟨rfl,hi⟩|⟨rfl,hi⟩|⟨rfl,hv⟩
  ·have X1':aF (.ptr h.next 1) h1=.ok (.int .i64 0) h1:=X1
   simp (disch:=omega) only [vvB,Nat.reduceEqDiff,reduceCtorEq,↓reduceIte,CO,CJ,CG,CB,Cm,Ho,f0,f1,f6,f7,f9,X1',X0,e2,S3,Int.reduceEq]
   exact ret _ (qK2 f6)
  ·have X1':aF (.ptr h.next 1) h1=.ok (.int .i64 1) h1:=X1
   rw [hi] at C0
   simp (disch:=omega) only [vvB,Nat.reduceEqDiff,reduceCtorEq,↓reduceIte,CO,CJ,agV,CG,CB,Cm,Ho,f0,f1,f6,f7,f9,X1',X0,C0,e2,S3,Int.reduceEq]
   exact ret _ (qK2 f6)
  ·have X1':aF (.ptr h.next 1) h1=.ok (.int .i64 2) h1:=X1
   rw [hi] at C0
   simp (disch:=omega) only [vvB,Nat.reduceEqDiff,reduceCtorEq,↓reduceIte,CO,CJ,CG,agU,CB,Cm,Ho,f0,f1,f6,f7,f9,X1',X0,C0,e2,S3,Int.reduceEq]
   exact ret _ (qK2 f6)
  ·have X1':aF (.ptr h.next 1) h1=.ok (.int .i64 3) h1:=X1
   obtain⟨pv,rfl⟩:=hvv hv
   simp (disch:=omega) only [vvB,Nat.reduceEqDiff,reduceCtorEq,↓reduceIte,CO,CJ,CG,CB,Xr,Cm,Ho,f0,f1,f6,f7,f9,X1',X0,C1,ay0,e2,S3,Int.reduceEq]
   exact ret _ (qK2 f6)
 unfold apE
 cases uid with
 |false=>
  simp (disch:=omega) only [vvB,Nat.reduceEqDiff,reduceCtorEq,↓reduceIte,VR,VQ,VP,f0,f1,f2,f6,P4,lk,ahH,auk (dD _ _),←hh1,U1]
  exact rest _ (qK2 f0) (qK2 f1) (qK2 f6) (qK0) (qK0)
 |true=>
  have hut:=hu rfl
  rw [hut] at X2 hh1
  simp (disch:=omega) only [vvB,Nat.reduceEqDiff,reduceCtorEq,↓reduceIte,VR,VQ,VP,f0,f1,f2,f6,P4,lk,hut,ahH,auk (dD _ _),←hh1,U1,X2]
  exact rest _ (qK2 f0) (qK2 f1) (qK2 f6) (qK0) (qK0)
theorem run_go(q:Rq bb h0 Z h pc im ps ir false w s st L vw P F J pl ib cb fb vm vl vv I)(hnm:nm≠aCy)(hf:H8 nm abd=some (f,n,u))(hm:aHK n st)(hc:Cmd f bb pc im ps ir false w s st vw P an s2 st2)(hl:an.length=5):
  ∃h',aaw [.ptr pc 0,.ptr ir 0,.str nm] h=.ok (.agg (V.ofList an)) h'∧zF bb h0 Z vw P h' pc im ps ir false w s2 st2:=by
 obtain⟨h1,hh1,c1,k1⟩:=mkW h (.cells (.rw tA true) zAn)
 have q1:=q.nw c1
 have eN:(nm= [117,105,100])=False:=eq_false hnm
 rw [asR,asI]
 suffices hT:aU Tryz.prog [.cell 6 tA] (RunT bb h0 Z vw P pc im ps ir false w an s2 st2)
   (aB MS (aB (aB MR (aV (.tmp 11) (aB (aB ab6 (aV (.tmp 17) (aB ab5 Out.ret) Out.nor)) (aB ab4 ab3)) Out.nor)) apE) (T.set (some (.str nm)) (Pos.of 2) (T.set (some (.ptr ir 0)) (Pos.of 1) (T.set (some (.ptr pc 0)) (Pos.of 0) T.nil))) h) by
  obtain⟨r,h',e,rfl,q⟩:=hT
  exact⟨h',e,q⟩
 simp (disch:=omega) only [vvB,Nat.reduceEqDiff,reduceCtorEq,↓reduceIte,eN,MS,MR,←hh1]
 exact aJA q1 k1 q.away q.chz.next hf (fun e=>by cases e) hm hc hl (qK0) (qK0) (qK0) (qK0)
end Go.Proofs.Im

noncomputable section
namespace Go.Im
open Go Go.Vm Go.Ln
abbrev okS:List Nat:= [79,75]
abbrev anf:List Nat:= [100,111,110,101]
abbrev ahF:List Nat:= [79,75,32,100,111,110,101]
def okT(tag tx:List Nat):List Nat:=if tx= [] then lineS [tag,ahF] else lineS [tag,okS,[91]++tx++ [93],anf]
def aki(A:Acc)(o:Option (Int×Int×List (Int×Int×Int))):Option (Int×Int×List (Int×Int×Int)):=o
def XR(A:Acc)(o:Option (Int×Int×List (Int×Int×Int))):List Nat:= []
end Go.Im
namespace Go.Proofs.Im
open Go Go.Proofs Go.Vm Go.Ln Go.Im
set_option maxRecDepth 100000
variable{bb:Nat}{h h' g h0:Hp}{P F I J Z:Pos→Prop}{ps pl ib ir pc im a0:Pos}{cb:Cap}{fb uid only last bare part:Bool}{vm vl vv vw:V}{st:Sn}{L:List V}{s tag tx:List Nat}{w:Wds}{f n:Nat}{b:Bx}{m:List Mg}
def WE(h0:Hp)(Z:Pos→Prop)(h:Hp)(pc im ps:Pos)(st:Sn):Prop:=
 ∃F J pl ib cb fb vm vl vv I,World h pc im ps st F J pl ib cb fb vm vl vv I∧(∀j,Ft F J pc im j→Z j∨h0.next.nat≤j.nat)∧Ch Z h0 h
theorem Rq.we(q:Rq bb h0 Z h pc im ps ir uid w s st L vw P F J pl ib cb fb vm vl vv I):WE h0 Z h pc im ps st:=⟨F,J,pl,ib,cb,fb,vm,vl,vv,I,q.wd,q.foot,q.chz⟩
theorem awh(x y:V)(h:Hp):aav [.bY,x,y] h=.ok (.str []) h:=by
 rw [asQ]
 simp only [vvB,Nat.reduceEqDiff,reduceCtorEq,↓reduceIte,aha,alR,alQ,axY,aiz]
 simp only [aT,bD,vvB,Nat.reduceEqDiff,reduceCtorEq,↓reduceIte,bF]
def doX:Go.Vm.F→Hp→Out:=aB (aB abT (aV (.tmp 104) alH alG)) (aB abS Out.ret)
theorem aId(b:Bool):eqV (.bool b) (.bool b)=true:=by cases b<;>rfl
theorem wL{l:List (List Nat)}(hl:∀t∈l,∀c∈t,c<256):∀c∈lineS l,c<256:=by
 have hj:∀c∈dV [32] l,c<256:=by
  cases l with
  |nil=>intro c hc;simp [dV] at hc
  |cons a r=>
   intro x hx
   rw [Dp,List.mem_append] at hx
   rcases hx with hx|hx
   ·exact hl a (by simp) x hx
   ·unfold zT at hx
    obtain⟨y,hy,hxy⟩:=List.mem_flatten.1 hx
    obtain⟨t,ht',rfl⟩:=List.mem_map.1 hy
    rcases List.mem_append.1 hxy with q|q
    ·simp at q;omega
    ·exact hl t (by simp [ht']) x q
 intro c hc
 unfold lineS at hc
 rcases List.mem_append.1 hc with q|q
 ·exact hj c q
 ·simp at q;omega
theorem aFj(q:Rq bb h0 Z h pc im ps ir uid w s st L vw P F J pl ib cb fb vm vl vv I)(ka:Kn h a0 (.cells (.rw tA true) (anL 0 tx last bare part)))(na:¬OfB ir 5 L a0)(hs:s.length≤1000000)(hs256:∀c∈s,c<256)(ht:tag.length≤1000000)(h256:∀c∈tag,c<256)(hx:tx.length≤1000)(hx256:∀c∈tx,c<256)
  {fr:Go.Vm.F} (f10:fr.get (Pos.of 10)=some (.ptr ir 0)) (f11:fr.get (Pos.of 11)=some (.ptr a0 0)) (f12:fr.get (Pos.of 12)=some (.str tag)):
  aU Tryz.prog [.tmp 8,.tmp 9] (fun r h'=>r=.tuple (.cons (.str (s++okT tag tx)) (.cons (.bool (!last)) .nil))∧WE h0 Z h' pc im ps st) (doX fr h):=by
 have A1:=ka.ld (q:=1) (x:=.str tx) rfl
 have fin:∀{h2:Hp} {L2:List V} {t:List Nat} {fr:Go.Vm.F},Rq bb h0 Z h2 pc im ps ir uid w (s++t) st L2 vw P F J pl ib cb fb vm vl vv I→Kn h2 a0 (.cells (.rw tA true) (anL 0 tx last bare part))→¬OfB ir 5 L2 a0→t≠ []→t.length≤3000000→(∀c∈t,c<256)→fr.get (Pos.of 10)=some (.ptr ir 0)→fr.get (Pos.of 11)=some (.ptr a0 0)→
   aU Tryz.prog [.tmp 8,.tmp 9] (fun r h'=>r=.tuple (.cons (.str (s++t)) (.cons (.bool (!last)) .nil))∧WE h0 Z h' pc im ps st) (aB abS Out.ret fr h2):=by
  intro h2 L2 t fr q2 k2 n2 htn htl ht256 f10 f11
  obtain⟨h3,e3,c3,n3⟩:=aeE q2.bd (by simp [htn]) (fun c hc=>by rcases List.mem_append.1 hc with q|q;exact hs256 c q;exact ht256 c q) (by simp;omega)
  have k3:=k2.ch c3 fun o=>n2 o.1
  have B2:=k2.ld (q:=2) (x:=.bool last) rfl
  have B3:=k3.ld (q:=2) (x:=.bool last) rfl
  simp (disch:=omega) only [vvB,Nat.reduceEqDiff,reduceCtorEq,↓reduceIte,abS,f10,f11,e3,B3,zo (m:=fun h=>aF (.ptr a0 2) h) B2 (aId last)]
  refine aU.ret (qT0) ⟨rfl,F,J,pl,ib,cb,fb,vm,vl,vv,I,q2.wd.ch c3 fun j f o=>q2.dis j o.1 f,q2.foot,q2.chz.trans c3 fun j hj o=>(q2.ob j o.1).resolve_right (by omega)⟩
 unfold doX
 by_cases hte:tx= []
 ·have hte':(tx= [])=True:=eq_true hte
  obtain⟨r2,h2,L2,e2,q2,p2⟩:=q.say (el:=9) [tag,ahF] (n:=2) rfl (by omega) (by simp [iO];omega) (by
   intro t ht;simp at ht;rcases ht with rfl|rfl
   ·exact h256
   ·decide) (.inr (by simp [dV])) (by simp [dV];omega)
  simp only [List.map_cons,List.map_nil] at e2
  obtain⟨k2,n2⟩:=keepA p2 ka na
  have ho:okT tag tx=dV [32] [tag,ahF]++ [13,10]:=by unfold okT;rw [if_pos hte];rfl
  rw [ho]
  simp (disch:=omega) only [vvB,Nat.reduceEqDiff,reduceCtorEq,↓reduceIte,abT,alG,f10,f11,f12,A1,hte',apT,e2]
  have:=fin (fr:=(T.set (some (.bool false)) (Pos.of 104) fr)) q2 k2 n2 (by simp) (by simp [dV];omega) (fun c hc=>wL (l:= [tag,ahF]) (by
   intro t ht;simp at ht;rcases ht with rfl|rfl
   ·exact h256
   ·decide) c hc) (qK2 f10) (qK2 f11)
  simpa only [vvB,Nat.reduceEqDiff,reduceCtorEq,↓reduceIte] using this
 ·have hte':(tx= [])=False:=eq_false hte
  have Sa:∀(x y:List Nat) (g:Hp),x.length+y.length<4000000→aI .add .none (.str x) (.str y) g=.ok (.str (x++y)) g:=fun x y g hl=>dH (by omega)
  have S1:=fun g=>Sa [91] tx g (by simp;omega)
  have S2:=fun g=>Sa ([91]++tx) [93] g (by simp;omega)
  have hall:∀t∈ [tag,okS,[91]++tx++ [93],anf],∀c∈t,c<256:=by
   intro t ht;simp only [List.mem_cons,List.not_mem_nil,or_false] at ht;rcases ht with rfl|rfl|rfl|rfl
   ·exact h256
   ·decide
   ·intro c hc;rw [List.mem_append,List.mem_append] at hc
    rcases hc with(hc|hc)|hc
    ·revert c;decide
    ·exact hx256 c hc
    ·revert c;decide
   ·decide
  obtain⟨r2,h2,L2,e2,q2,p2⟩:=q.say (el:=9) [tag,okS,[91]++tx++ [93],anf] (n:=4) rfl (by omega) (by simp [iO];omega) hall (.inr (by simp [dV])) (by simp [dV];omega)
  simp only [List.map_cons,List.map_nil] at e2
  obtain⟨k2,n2⟩:=keepA p2 ka na
  have ho:okT tag tx=dV [32] [tag,okS,[91]++tx++ [93],anf]++ [13,10]:=by unfold okT;rw [if_neg hte];rfl
  rw [ho]
  simp (disch:=omega) only [vvB,Nat.reduceEqDiff,reduceCtorEq,↓reduceIte,abT,alH,f10,f11,f12,A1,hte',S1,S2,apS,e2]
  have:=fin (fr:=(T.set (some (.bool true)) (Pos.of 104) fr)) q2 k2 n2 (by simp) (by simp [dV];omega) (fun c hc=>wL (l:= [tag,okS,[91]++tx++ [93],anf]) hall c hc) (qK2 f10) (qK2 f11)
  simpa only [vvB,Nat.reduceEqDiff,reduceCtorEq,↓reduceIte] using this
end Go.Proofs.Im

noncomputable section
namespace Go.Im
open Go Go.Vm Go.Ln
abbrev noS:List Nat:= [32,78,79,32]
def vI(k:Int)(tag tx s2:List Nat)(bare:Bool)(st2:Sn):List Nat:=if k=1 then tag++noS++tx++ [13,10] else if bare=true then s2++okT tag tx else s2++XR st2.acc st2.vw++okT tag tx
def KI(k:Int)(bare:Bool)(st2:Sn):Sn:=if k=1∨bare=true then st2 else{st2 with vw:=aki st2.acc st2.vw}
end Go.Im
namespace Go.Proofs.Im
open Go Go.Proofs Go.Vm Go.Ln Go.Im
set_option maxRecDepth 100000
variable{bb:Nat}{h h' g h0:Hp}{P F I J Z S:Pos→Prop}{ps pl ib p ir pc im:Pos}{cb:Cap}{fb only last bare part:Bool}{v vm vl vv vw:V}{st st2:Sn}{L an:List V}{s s2 nm tx:List Nat}{w:Wds}{f n:Nat}{now:List (Int×Ml)}{m:List Mg}
theorem aET{v c s:V}{n:Int}(hv:v.cells= [v]∧gu v=true)(hc:c.cells= [c]∧gu c=true)(hs:s.cells= [s]∧gu s=true)(h:Hp):
  bK [.bY,.bY,.int .i64 0,.aG,.bool false,.bY,.aG] [(0,1,c),(1,1,s),(2,1,.int .i64 n),(3,1,v)] h=.ok (.agg (.cons c (.cons s (.cons (.int .i64 n) (.cons v (.cons (.bool false) (.cons .bY (.cons .aG .nil)))))))) h:=by
 unfold bK
 simp only [NJ,hv.1,hv.2,hc.1,hc.2,hs.1,hs.2]
 rfl
theorem aJ0:liesAt Tryz.prog Tryz.prog.depth tRq (7 / Tryz.prog.cellsOf tRq) 5 tBd 1=true:=by kernel_rfl
theorem ash{rs:List ResultVar}{Q Q':V→Hp→Prop}{o:Out}(t:aU Tryz.prog rs Q o)(hq:∀r h,Q r h→Q' r h):aU Tryz.prog rs Q' o:=by
 obtain⟨r,h,e,q⟩:=t
 exact⟨r,h,e,hq r h q⟩
theorem ae7(a l:V):(V.cons a l).list=a::l.list:=(rfl)
theorem akA:V.nil.list= []:=(rfl)
theorem aIQ:aD0=(aB Ui (aB (bP 0 (aB Uh (aV (.tmp 13) (aB aqS Out.ret) (aB Ug (aV (.tmp 20) (aB aqR Out.ret) (aB Uf (aV (.tmp 24) (aB aqQ Out.ret) Out.nor))))))) (aB Ue (aB Ud (aB Ub (aB MQ (aB (bP 1 (aB MP (aV (.tmp 66) (aB abV Out.ret) (aB VL (aV (.tmp 76) (aB alI Out.ret) Out.nor))))) (aB (aB VK (aV (.tmp 88) abU Out.nor)) doX)))))))):=rfl
theorem akt(t:TypeId)(h:Hp):fC t [.int .i64 0,.str [],.bool false,.bool false,.bool false] h=.ok (.ptr h.next 0) (h.new (.cells (.rw t true) zAn)):=(rfl)
def Dw(pc im ps:Pos)(w:Wds)(nm:List Nat)(st:Sn)(an:List V)(s2:List Nat)(st2:Sn):Prop:=
 ∀(bb:Nat) (h0:Hp) (Z:Pos→Prop) (h:Hp) (ir:Pos) (L:List V) (vw:V) (P F J:Pos→Prop) (pl ib:Pos) (cb:Cap) (fb:Bool) (vm vl vv:V) (I:Pos→Prop),Rq bb h0 Z h pc im ps ir false w [] st L vw P F J pl ib cb fb vm vl vv I→
  ∃h' vw' P' w' uid',aaw [.ptr pc 0,.ptr ir 0,.str nm] h=.ok (.agg (V.ofList an)) h'∧zF bb h0 Z vw' P' h' pc im ps ir uid' w' s2 st2
theorem aPW{g:Ln.Got}{x y:Wd}{kk now:Int}(W:World h pc im ps st F J pl ib cb fb vm vl vv I)(tw:WS P h vw g.words)(hP:∀j,P j→¬Ft F J pc im j)(hk:g.kind=1)(hx0:g.words.get? 0=some x)(hkx:x.kind=1)(hx1:g.words.get? 1=some y)(hky:y.kind=1)
  (hxl:x.text.length≤1000000∧∀c∈x.text,c<256) (hyl:y.text.length≤1000000∧∀c∈y.text,c<256) (hcnt:0≤st.cnt∧st.cnt<1000000) (hrun:Dw pc im ps (g.words.drop 2) (foldM y.text) {st with cnt:=st.cnt+1} (anL kk tx last bare part) s2 st2)
  (hkk:kk=0∨kk=1) (htx:tx.length≤1000∧∀c∈tx,c<256) (hs2:s2.length≤100000∧∀c∈s2,c<256) (hu:kk=0→bare=false→st2.vw=none):
  ∃h',aid [.ptr pc 0,.ptr ps 0,.int .i64 now,.agg (.cons (.int .i64 g.kind) (.cons vw .nil))] h=.ok (.tuple (.cons (.str (vI kk x.text tx s2 bare st2)) (.cons (.bool (if kk=1 then true else !last)) .nil))) h'∧WE h (Ft F J pc im) h' pc im ps (KI kk bare st2):=by
 obtain⟨h1,hh1,c1,g1⟩:=mkW h (.cells (.rw aHi true) [.int .i64 g.kind,vw])
 have n1:h1.next.nat=h.next.nat+1:=by rw [hh1,aZ]
 have tw1:WS P h1 vw g.words:=tw.ch c1 fun j _ q=>⟨q,fun q=>q⟩
 have W1:=W.ch c1 fun _ _ q=>q
 have G0:aF (.ptr h.next 0) h1=.ok (.int .i64 1) h1:=by rw [←hk];exact g1.ld rfl
 have G1:=g1.ld (q:=1) (x:=vw) rfl
 have ha0:abg g.words 0=true:=by unfold abg;rw [hx0];exact decide_eq_true hkx
 have ha1:abg g.words 1=true:=by unfold abg;rw [hx1];exact decide_eq_true hky
 have A0:JO [vw,.int .i64 0] h1=.ok (.bool true) h1:=by have:=arR tw1 0;rwa [ha0] at this
 have A1:JO [vw,.int .i64 1] h1=.ok (.bool true) h1:=by have:=arR tw1 1;rwa [ha1] at this
 have hlen:2≤g.words.len:=by have:=Wds.TV hx1;omega
 obtain⟨st1,hst1⟩:∃st1,st1=({st with cnt:=st.cnt+1}:Sn):=⟨_,rfl⟩
 rw [←hst1] at hrun
 obtain⟨h2,hh2⟩:∃h2,h2=h1.put pc (some (.cells (.rw tCn true) [.bool st1.inn,vv,.bool st1.only,iV st1.cnt,.map im])):=⟨_,rfl⟩
 have eadd:aax [.ptr pc 3,.int .i64 1] h1=.ok (.int .i64 (st.cnt+1)) h2:=by
  have:=ayM W1.con (q:=3) (n:=st.cnt) (m:=1) rfl (by omega) (by omega)
  rw [hh2,hst1];exact this
 have W2:World h2 pc im ps st1 F J pl ib cb fb vm vl vv I:=by
  rw [hh2];exact W1.afg (by rw [hst1]) (by rw [hst1];exact W1.view) fun j q=>⟨fun f=>(W1.fj j f).1 q,W1.jn j q⟩
 have c2:Ch (fun j=>j=pc) h1 h2:=by rw [hh2];exact Ch.put _ _ rfl
 have n2:h2.next.nat=h.next.nat+1:=by rw [hh2,jr,n1]
 have c02:Ch (Ft F J pc im) h h2:=(c1.ch (S:=Ft F J pc im)).trans (c2.mono fun j _ e=>.inr (.inr (.inl e))) fun _ _ q=>q
 have hZ:∀j,Ft F J pc im j→j.nat<h.next.nat:=W.lt
 have g2:Kn h2 h.next (.cells (.rw aHi true) [.int .i64 g.kind,vw]):=g1.ch c2 fun e=>by have:=hZ _ (.inr (.inr (.inl e)));omega
 have tw2:WS P h2 vw g.words:=tw.ch c02 fun j _ q=>⟨q,hP j q⟩
 have G2:=g2.ld (q:=1) (x:=vw) rfl
 obtain⟨v',es,tw2'⟩:=tw2.from hlen
 have es':∀h',eX 3 vw (some (.int .i64 2)) none none h'=.ok v' h':=es
 obtain⟨h3,hh3,c3,-⟩:=mkW h2 (.cells (.rw tRq true) [.ptr pc 0,.ptr ps 0,.int .i64 now,v',.bool false,.bY,.aG])
 have n3:h3.next.nat=h2.next.nat+1:=by rw [hh3,aZ]
 have g3:h3.get h2.next=some (.cells (.rw tRq true) [.ptr pc 0,.ptr ps 0,.int .i64 now,v',.bool false,.bY,.aG]):=by rw [hh3];exact dD _ _
 have d3:Bd h2.next.nat h3 h2.next 5 tRq [.ptr pc 0,.ptr ps 0,.int .i64 now,v',.bool false,.bY,.aG] []:=
  ⟨Nat.le_refl _,by omega,g3,.inl rfl,⟨.aG,rfl,Ow.nil _ _ _ _,fun j hj=>(by cases hj)⟩,aJ0⟩
 have tw3:WS P h3 v' (g.words.drop 2):=tw2'.ch c3 fun j _ q=>⟨q,fun q=>q⟩
 have tw3w:WS P h3 vw g.words:=tw2.ch c3 fun j _ q=>⟨q,fun q=>q⟩
 have G3:=(g2.nw c3).ld (q:=1) (x:=vw) rfl
 have B0:=aET (v:=v') (c:=.ptr pc 0) (s:=.ptr ps 0) (n:=now) tw3.cell ⟨rfl,rfl⟩ ⟨rfl,rfl⟩ h2
 obtain⟨P',hP',tw3'⟩:∃P':Pos→Prop,(∀j,P' j→j.nat<h2.next.nat∧¬Ft F J pc im j)∧WS P' h3 v' (g.words.drop 2):=
  ⟨fun j=>P j∧j.nat<h2.next.nat,fun j q=>⟨q.2,hP j q.1⟩,(tw2'.ch (P':=fun j=>P j∧j.nat<h2.next.nat) (Nw.refl h2) fun j hj q=>⟨⟨q,hj⟩,fun q=>q⟩).ch c3 fun j _ q=>⟨q,fun q=>q⟩⟩
 obtain⟨j,q,vk,i1,i2,i3,i4,-⟩:=WS.at tw3w hx1
 have i1':∀h',bU 3 vw (.int .i64 1) h'=.ok (.ptr j q) h':=i1
 have i3':aF (.ptr j (q+1)) h3=.ok (.str y.text) h3:=i3
 obtain⟨rf,h4,e4,rfl,c4⟩:=avG (h:=h3) (by omega) hyl.2
 have c4':Nw h3 h4:=c4
 have q3:Rq h2.next.nat h2 (Ft F J pc im) h3 pc im ps h2.next false (g.words.drop 2) [] st1 [.ptr pc 0,.ptr ps 0,.int .i64 now,v',.bool false,.bY,.aG] v' P' F J pl ib cb fb vm vl vv I:=
  {bd:=d3
   hbb:=Nat.le_refl _
   ob:=fun j o=>.inr (o.from d3 _).1
   l0:=rfl
   l1:=rfl
   l3:=rfl
   l4:=rfl
   ws:=tw3'
   wd:=W2.ch c3 fun _ _ q=>q
   dis:=fun j o f=>by have:=(o.from d3 _).1;have:=hZ j f;omega
   old:=hP'
   foot:=fun j f=>.inl f
   chz:=c3.ch}
 obtain⟨h5,vw5,P5,w5,uid5,e5,r5⟩:=hrun _ _ _ _ _ _ _ _ _ _ _ _ _ _ _ _ _ _ (q3.nw c4')
 obtain⟨L5,F5,J5,pl5,ib5,cb5,fb5,vm5,vl5,vv5,I5,q5⟩:=r5
 obtain⟨h7,hh7,c7,k7⟩:=mkW h5 (.cells (.rw tA true) (anL kk tx last bare part))
 have S7:aO 5 (.ptr h5.next 0) (anV kk tx last bare part) (h5.new (.cells (.rw tA true) zAn))=.ok V.undef h7:=by rw [hh7];exact iF (V.dO _) rfl rfl
 have q7:=q5.nw c7
 have na7:¬OfB h2.next 5 L5 h5.next:=fun o=>by have:=(o.from q5.bd _).2;omega
 have nf7:¬Ft F5 J5 pc im h5.next:=fun f=>by have:=q5.wd.lt _ f;omega
 have c07:Ch (Ft F J pc im) h h7:=c02.trans q7.chz fun _ _ q=>q
 have tw7:WS P h7 vw g.words:=tw.ch c07 fun j _ q=>⟨q,hP j q⟩
 have g7:Kn h7 h.next (.cells (.rw aHi true) [.int .i64 g.kind,vw]):=g2.ch q7.chz fun f=>by have:=hZ _ f;omega
 have G7:=g7.ld (q:=1) (x:=vw) rfl
 obtain⟨jt,qt,vt,t1,t2,t3,t4,-⟩:=WS.at tw7 hx0
 have t1':∀h',bU 3 vw (.int .i64 0) h'=.ok (.ptr jt qt) h':=t1
 have K0:=k7.ld (q:=0) (x:=.int .i64 kk) rfl
 have K1:=k7.ld (q:=1) (x:=.str tx) rfl
 have K3:=k7.ld (q:=3) (x:=.bool bare) rfl
 have back:∀{h8:Hp} {s8:Sn},WE h2 (Ft F J pc im) h8 pc im ps s8→WE h (Ft F J pc im) h8 pc im ps s8:=fun⟨F,J,pl,ib,cb,fb,vm,vl,vv,I,w,hf,c⟩=>⟨F,J,pl,ib,cb,fb,vm,vl,vv,I,w,fun j f=>(hf j f).imp id fun l=>by omega,c02.trans c fun _ _ q=>q⟩
 rw [aJa,aIQ]
 suffices T:aU Tryz.prog [.tmp 8,.tmp 9] (fun r h'=>r=.tuple (.cons (.str (vI kk x.text tx s2 bare st2)) (.cons (.bool (if kk=1 then true else !last)) .nil))∧WE h (Ft F J pc im) h' pc im ps (KI kk bare st2))
   (aB Ui (aB (bP 0 (aB Uh (aV (.tmp 13) (aB aqS Out.ret) (aB Ug (aV (.tmp 20) (aB aqR Out.ret) (aB Uf (aV (.tmp 24) (aB aqQ Out.ret) Out.nor))))))) (aB Ue (aB Ud (aB Ub (aB MQ (aB (bP 1 (aB MP (aV (.tmp 66) (aB abV Out.ret) (aB VL (aV (.tmp 76) (aB alI Out.ret) Out.nor))))) (aB (aB VK (aV (.tmp 88) abU Out.nor)) doX)))))))
    (T.set (some (.agg (.cons (.int .i64 g.kind) (.cons vw .nil)))) (Pos.of 3) (T.set (some (.int .i64 now)) (Pos.of 2) (T.set (some (.ptr ps 0)) (Pos.of 1) (T.set (some (.ptr pc 0)) (Pos.of 0) T.nil)))) h) by
  obtain⟨r,h',e,rfl,w⟩:=T
  exact⟨h',e,w⟩
 rcases hkk with rfl|rfl
 ·have hon:(if(0:Int)=1 then true else !last)=!last:=if_neg (by decide)
  rw [hon]
  cases bare with
  |true=>
   have heT:vI 0 x.text tx s2 true st2=s2++okT x.text tx:=by unfold vI;rw [if_neg (by decide),if_pos rfl]
   have heS:KI 0 true st2=st2:=by unfold KI;rw [if_pos (.inr rfl)]
   rw [heT,heS]
   simp (disch:=omega) only [vvB,Nat.reduceEqDiff,reduceCtorEq,↓reduceIte,Ui,Uh,Ug,Uf,Ue,Ud,Ub,MQ,MP,VL,VK,ae7,akA,←hh1,fF,G0,G1,A0,A1,eadd,G2,es',B0,←hh3,G3,i1',i3',e4,e5,akt,S7,G7,t1',t3,K0,K3,Nat.add_zero,Int.reduceEq]
   exact ash (aFj q7 k7 na7 (by omega) hs2.2 hxl.1 hxl.2 htx.1 htx.2 (qK0) (qK0) (qK0)) fun r h' q=>⟨q.1,back q.2⟩
  |false=>
   have heT:vI 0 x.text tx s2 false st2=s2++XR st2.acc st2.vw++okT x.text tx:=by unfold vI;rw [if_neg (by decide),if_neg (by simp)]
   have heS:KI 0 false st2={st2 with vw:=aki st2.acc st2.vw}:=by unfold KI;rw [if_neg (by simp)]
   rw [heT,heS]
   have hvw:=q7.wd.view
   rw [hu rfl rfl] at hvw
   have C1:=q7.wd.con.ld (q:=1) (x:=vv5) rfl
   have K4:=k7.ld (q:=4) (x:=.bool part) rfl
   have e8:aav [vv5,.ptr ps 0,.bool !part] h7=.ok (.str []) h7:=by rw [hvw.1];exact awh _ _ _
   obtain⟨r9,h9,L9,e9,d9,p9,kk9,l9⟩:=Uk q7.bd [] (by simp only [List.length_nil];omega)
   have q9:Rq h2.next.nat h2 (Ft F J pc im) h9 pc im ps h2.next uid5 w5 (s2++ []) st2 L9 vw5 P5 F5 J5 pl5 ib5 cb5 fb5 vm5 vl5 vv5 I5:=
    {bd:=d9
     hbb:=q7.hbb
     ob:=fun j o=>(p9.sub j o).elim (q7.ob j) fun l=>.inr (Nat.le_trans q7.chz.next l)
     l0:=by rw [kk9 0 (by omega) (by omega)];exact q7.l0
     l1:=by rw [kk9 1 (by omega) (by omega)];exact q7.l1
     l3:=by rw [kk9 3 (by omega) (by omega)];exact q7.l3
     l4:=by rw [kk9 4 (by omega) (by omega)];exact q7.l4
     ws:=q7.ws.ch p9.ch fun j _ p=>⟨p,fun o=>by have:=(q7.old j p).1;have:=(o.from q7.bd _).1;omega⟩
     wd:=q7.wd.ch p9.ch fun j f o=>q7.dis j o f
     dis:=fun j o f=>(p9.sub j o).elim (fun o=>q7.dis j o f) fun l=>by have:=q7.wd.lt j f;omega
     old:=q7.old
     foot:=q7.foot
     chz:=q7.chz.trans p9.ch fun j hj o=>(q7.ob j o).resolve_right (by omega)}
   obtain⟨k9,na9⟩:=keepA p9 k7 na7
   simp (disch:=omega) only [vvB,Nat.reduceEqDiff,reduceCtorEq,↓reduceIte,Ui,Uh,Ug,Uf,Ue,Ud,Ub,MQ,MP,VL,VK,abU,ae7,akA,←hh1,fF,G0,G1,A0,A1,eadd,G2,es',B0,←hh3,G3,i1',i3',e4,e5,akt,S7,G7,t1',t3,K0,K3,C1,K4,e8,e9,Nat.add_zero,Int.reduceEq]
   exact ash (aFj q9 k9 na9 (by simp;omega) (fun c hc=>hs2.2 c (by simpa using hc)) hxl.1 hxl.2 htx.1 htx.2 (qK0) (qK0) (qK0)) fun r h' q=>⟨q.1,back q.2⟩
 ·have heT:vI 1 x.text tx s2 bare st2=x.text++noS++tx++ [13,10]:=by unfold vI;rw [if_pos rfl]
  have heS:KI 1 bare st2=st2:=by unfold KI;rw [if_pos (.inl rfl)]
  have hon:(if(1:Int)=1 then true else !last)=true:=if_pos rfl
  rw [heT,heS,hon]
  have Sa:∀(x y:List Nat) (g:Hp),x.length+y.length<4000000→aI .add .none (.str x) (.str y) g=.ok (.str (x++y)) g:=fun x y g hl=>dH (by omega)
  have S1:=fun g=>Sa x.text noS g (by simp;omega)
  have S2:=fun g=>Sa (x.text++noS) tx g (by simp;omega)
  have S3:=fun g=>Sa (x.text++noS++tx) [13,10] g (by simp;omega)
  simp (disch:=omega) only [vvB,Nat.reduceEqDiff,reduceCtorEq,↓reduceIte,Ui,Uh,Ug,Uf,Ue,Ud,Ub,MQ,MP,abV,ae7,akA,←hh1,fF,G0,G1,A0,A1,eadd,G2,es',B0,←hh3,G3,i1',i3',e4,e5,akt,S7,G7,t1',t3,K0,K1,S1,S2,S3,Nat.add_zero,Int.reduceEq]
  exact aU.ret (qT0) ⟨rfl,back q7.we⟩
end Go.Proofs.Im

noncomputable section
namespace Go.Proofs.Im
open Go Go.Proofs Go.Vm Go.Ln Go.Im
set_option maxRecDepth 100000
variable{h h' g:Hp}{P F I J:Pos→Prop}{ps pl ib pc im i:Pos}{A B:Acc}{cb:Cap}{fb only u:Bool}{v vm vl vv vw:V}{st st2:Sn}{s:List Nat}{w:Wds}{k f n:Nat}
theorem Told.atN{P:Pos→Prop}{h:Hp}{v:V}{gs:List Ln.Got}(t:Told P h v gs){k:Nat}{g:Ln.Got}(e:gs[k]?=some g):
  ∃j q vw,(∀h',bU 2 v (.int .i64 (k:Int)) h'=.ok (.ptr j q) h')∧bW 2 (.ptr j q) h=.ok (.agg (.cons (.int .i64 g.kind) (.cons vw .nil))) h∧jI P h vw g.words:=by
 obtain⟨cs,o,i,w⟩:=t
 have hk:k<gs.length:=(List.getElem?_eq_some_iff.1 e).1
 obtain⟨c0,vw,c1,w1⟩:=w.get e
 obtain⟨j,q,e1,-,-,e2⟩:=o.sl.atN hk
 refine⟨j,q,vw,e1,?_,w1⟩
 rw [e2 h rfl]
 obtain⟨l0,x0⟩:=List.getElem?_eq_some_iff.1 c0
 obtain⟨l1,x1⟩:=List.getElem?_eq_some_iff.1 c1
 rw [List.drop_eq_getElem_cons l0,List.drop_eq_getElem_cons l1,x0,x1]
 rfl
def mG(pc im ps:Pos)(g:Ln.Got)(st:Sn)(t:List Nat)(on:Bool)(st':Sn):Prop:=
 t.length≤2000000∧∀(h:Hp) (F J:Pos→Prop) (pl ib:Pos) (cb:Cap) (fb:Bool) (vm vl vv:V) (I:Pos→Prop) (P:Pos→Prop) (vw:V),World h pc im ps st F J pl ib cb fb vm vl vv I→WS P h vw g.words→(∀j,P j→¬Ft F J pc im j)→
  ∃h',aid [.ptr pc 0,.ptr ps 0,.int .i64 0,.agg (.cons (.int .i64 g.kind) (.cons vw .nil))] h=.ok (.tuple (.cons (.str t) (.cons (.bool on) .nil))) h'∧WE h (Ft F J pc im) h' pc im ps st'
inductive Alls (pc im ps:Pos):List Ln.Got→Sn→List Nat→Sn→Prop
 |nil (st:Sn):Alls pc im ps [] st [] st
 |go {g:Ln.Got} {gs:List Ln.Got} {st st1 st2:Sn} {t u:List Nat}:mG pc im ps g st t true st1→Alls pc im ps gs st1 u st2→Alls pc im ps (g::gs) st (t++u) st2
 |stop {g:Ln.Got} {gs:List Ln.Got} {st st1:Sn} {t:List Nat}:mG pc im ps g st t false st1→Alls pc im ps (g::gs) st t st1
theorem aht{s t:List Nat}{gs:List Ln.Got}{st st':Sn}{F0 J0:Pos→Prop}(W:World h pc im ps st F0 J0 pl ib cb fb vm vl vv I)(hG:Ik.aN≤h.next.nat)(hF:Fed s gs)(ha:Alls pc im ps gs st t st'):
  ∃h',Nk [.ptr pc 0,.ptr ps 0,.str s] h=.ok (.str t) h'∧WE h (Ft F0 J0 pc im) h' pc im ps st':=by
 obtain⟨hl,hgl,hfd⟩:=hF
 obtain⟨v,h2,e2',c02,nI⟩:=hfd h hG
 have n02:=c02.next
 have hZ:=W.lt
 have hB1:Gn (.str s) (h.new Ik.rdO)=.ok (.slice h.next.succ 0 s.length (.un 1)) ((h.new Ik.rdO).new (.bytes (bys s))):=auW (by omega)
 have e1':amf [.int .i64 4000] h=.ok (.ptr h.next 0) (h.new Ik.rdO):=Ik.oL h
 rw [azN]
 suffices T:aU Tryz.prog [.tmp 6] (fun r h'=>r=.str t∧WE h (Ft F0 J0 pc im) h' pc im ps st') (aci (T.set (some (.str s)) (Pos.of 2) (T.set (some (.ptr ps 0)) (Pos.of 1) (T.set (some (.ptr pc 0)) (Pos.of 0) T.nil))) h) by
  obtain⟨r,h',e,rfl,w⟩:=T
  exact⟨h',e,w⟩
 simp (disch:=omega) only [vvB,Nat.reduceEqDiff,reduceCtorEq,↓reduceIte,aci,aoH,aoG,aoF,aoE,e1',hB1,e2']
 refine Oc.then (dR (n:=gs.length) (fun μ fr g=>∃(k:Nat) (acc u:List Nat) (si:Sn),fr.get (Pos.of 0)=some (.ptr pc 0)∧fr.get (Pos.of 1)=some (.ptr ps 0)∧fr.get (Pos.of 7)=some v∧fr.get (Pos.of 8)=some (.str acc)∧fr.get (Pos.of 9)=some (.int .i64 (k:Int))∧
   k+μ=gs.length∧Alls pc im ps (gs.drop k) si u st'∧acc++u=t∧acc.length≤k*2000000∧Told (fun j=>h.next.nat≤j.nat∧j.nat<h2.next.nat) g v gs∧h2.next.nat≤g.next.nat∧
   ∃F J pl ib cb fb vm vl vv I,World g pc im ps si F J pl ib cb fb vm vl vv I∧(∀j,Ft F J pc im j→j.nat<h.next.nat∨h2.next.nat≤j.nat)∧(∀j,Ft F J pc im j→Ft F0 J0 pc im j∨h.next.nat≤j.nat)∧Ch (Ft F0 J0 pc im) h g)
  (A:=fun fr g=>fr.get (Pos.of 8)=some (.str t)∧WE h (Ft F0 J0 pc im) g pc im ps st') (B:=fun _ _=>False) (by rw [dS];omega) ?_ ?_) ?_ ?_
 ·exact⟨0,[],t,st,qK0,qK0,qK0,qK0,qK1,by omega,ha,rfl,by simp,nI,Nat.le_refl _,F0,J0,pl,ib,cb,fb,vm,vl,vv,I,W.ch c02 (fun _ _ q=>q),fun j f=>.inl (hZ j f),fun j f=>.inl f,c02.ch⟩
 ·rintro μ fr g ⟨k,acc,u,si,f0,f1,f7,f8,f9,hk,hal,hu,hacc,tg,hng,F,J,pl,ib,cb,fb,vm,vl,vv,I,w,hout,hft,cg⟩
  by_cases hz:μ=0
  ·have hkk:gs.length≤k:=by omega
   rw [List.drop_eq_nil_of_le hkk] at hal
   cases hal
   rw [List.append_nil] at hu
   subst hu
   simp (disch:=omega) only [vvB,Nat.reduceEqDiff,reduceCtorEq,↓reduceIte,TB,SS,f7,f9,Told.len tg]
   exact⟨rfl,qK2 f8,F,J,pl,ib,cb,fb,vm,vl,vv,I,w,hft,cg⟩
  ·have hlt:k<gs.length:=by omega
   have hge:gs[k]?=some gs[k]:=List.getElem?_eq_getElem hlt
   rw [List.drop_eq_getElem_cons hlt] at hal
   generalize gs[k]=gk at hge hal
   obtain⟨j,q,vw,i1,i2,wr⟩:=tg.atN hge
   have hbk:k*2000000≤1000*2000000:=Nat.mul_le_mul_right _ (by omega)
   have next:∀{t1:List Nat} {on:Bool} {s1:Sn},mG pc im ps gk si t1 on s1→∃h3,aid [.ptr pc 0,.ptr ps 0,.int .i64 0,.agg (.cons (.int .i64 gk.kind) (.cons vw .nil))] g=.ok (.tuple (.cons (.str t1) (.cons (.bool on) .nil))) h3∧t1.length≤2000000∧Told (fun j=>h.next.nat≤j.nat∧j.nat<h2.next.nat) h3 v gs∧h2.next.nat≤h3.next.nat∧
     ∃F J pl ib cb fb vm vl vv I,World h3 pc im ps s1 F J pl ib cb fb vm vl vv I∧(∀j,Ft F J pc im j→j.nat<h.next.nat∨h2.next.nat≤j.nat)∧(∀j,Ft F J pc im j→Ft F0 J0 pc im j∨h.next.nat≤j.nat)∧Ch (Ft F0 J0 pc im) h h3:=by
    intro t1 on s1 hd
    obtain⟨h3,e3,F',J',pl',ib',cb',fb',vm',vl',vv',I',w3,hf3,c3⟩:=hd.2 g F J pl ib cb fb vm vl vv I _ vw w wr.ws fun j q f=>by have:=hout j f;omega
    have n3:=c3.next
    refine⟨h3,e3,hd.1,tg.ch c3 fun j _ q=>⟨q,fun f=>by have:=hout j f;omega⟩,by omega,F',J',pl',ib',cb',fb',vm',vl',vv',I',w3,fun j f=>(hf3 j f).elim (hout j) fun l=>.inr (by omega),fun j f=>(hf3 j f).elim (hft j) fun l=>.inr (by omega),cg.trans c3 fun j hj f=>(hft j f).resolve_right (by omega)⟩
   cases hal with
   |go hd hrest=>
    rename_i st1 t1 u1
    obtain⟨h3,e3,hl3,tg3,n3,w3⟩:=next hd
    have S1:∀h,aI .add .none (.str acc) (.str t1) h=.ok (.str (acc++t1)) h:=fun h=>dH (by omega)
    simp (disch:=omega) only [vvB,Nat.reduceEqDiff,reduceCtorEq,↓reduceIte,TB,SS,aoD,abM,abL,abK,f0,f1,f7,f8,f9,Told.len tg,i1,i2,e3,S1]
    exact⟨μ - 1,by omega,k+1,acc++t1,u1,st1,qK2 f0,qK2 f1,qK2 f7,qK0,qK1,by omega,hrest,by rw [List.append_assoc];exact hu,by rw [List.length_append];omega,tg3,n3,w3⟩
   |stop hd=>
    obtain⟨h3,e3,hl3,tg3,n3,F,J,pl,ib,cb,fb,vm,vl,vv,I,w3,-,hf3,c3⟩:=next hd
    have S1:∀h,aI .add .none (.str acc) (.str u) h=.ok (.str (acc++u)) h:=fun h=>dH (by omega)
    simp (disch:=omega) only [vvB,Nat.reduceEqDiff,reduceCtorEq,↓reduceIte,TB,SS,abM,abL,abK,f0,f1,f7,f8,f9,Told.len tg,i1,i2,e3,S1]
    exact⟨rfl,qK2 hu,F,J,pl,ib,cb,fb,vm,vl,vv,I,w3,hf3,c3⟩
 ·rintro fr g ⟨f8,w⟩
  simp (disch:=omega) only [vvB,Nat.reduceEqDiff,reduceCtorEq,↓reduceIte,aoC,f8]
  exact aU.ret (qT0) ⟨rfl,w⟩
 ·intro fr g q;exact q.elim
end Go.Proofs.Im
