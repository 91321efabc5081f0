/- Lemmas. No conditions. -/
import Derived.Test.YtpgppmioigacoaaGreatDoorProg
import Derived.KernelRfl
import Derived.Test.YtpgppmioigacoaaGreatDoorFAF
import Derived.Test.YtpgppmioigacoaaGreatDoorFAG
import Derived.Test.YtpgppmioigacoaaGreatDoorFAI
set_option linter.all false
set_option maxHeartbeats 4000000
set_option maxRecDepth 100000
open Nat renaming beq→a!
open List renaming mem_range→b!,all_eq_true→c!,range→d!
open Int renaming toNat_of_nonneg→e!,toNat_natCast→h!
open Go.Vm.V renaming int→Y,bool→K,str→H
open Go.IntKind renaming i64→U
open Go.Vm.Ob renaming cells→O
open Go.Vm.Wr renaming rw→N
open Go.Vm.R renaming ok→D
noncomputable section
open Go Go.Proofs Go.Vm
namespace Go.Vm
def dZ(n:Nat):List Nat:=match Nat.blt n 10 with|true=> [48+n]|false=> [48+n / 10,48+n % 10]
def aqJ(args:List V):Option V:=match args with
 |Y U n:: []=>if 0<=n/\n<100 then some (H (dZ n.toNat)) else none
 |_=>none
def XG(s:List Nat)(r:V)(args:List V):Option V:=match args with
 |H t:: []=>if t=s then some r else none
 |_=>none
def abq(s a:List Nat)(r:V)(args:List V):Option V:=match args with
 |H t:: H t':: []=>if t=s/\t'=a then some r else none
 |_=>none
def aA7{args:List V}{r:V}(e:aqJ args=some r):∃n:Nat,n<100/\args= [Y U (n:Int)]/\r=H (dZ n):=by
 unfold aqJ at e;split at e
 ·split at e
  ·rename_i n hn;cases e;exact⟨n.toNat,by omega,by rw[e! hn.1],rfl⟩
  ·cases e
 ·cases e
def TW{s:List Nat}{q:V}{args:List V}{r:V}(e:XG s q args=some r):args= [H s]/\r=q:=by
 unfold XG at e;split at e
 ·split at e
  ·rename_i h;cases e;exact⟨by rw[h],rfl⟩
  ·cases e
 ·cases e
def alM{s a:List Nat}{q:V}{args:List V}{r:V}(e:abq s a q args=some r):args= [H s,H a]/\r=q:=by
 unfold abq at e;split at e
 ·split at e
  ·rename_i h;cases e;exact⟨by rw[h.1,h.2],rfl⟩
  ·cases e
 ·cases e
def aqI{n:Nat}(h:n<100):aqJ [Y U (n:Int)]=some (H (dZ n)):=by
 unfold aqJ;simp only[];rw[if_pos (by omega),h!]
def aLu(s:List Nat)(r:V):XG s r [H s]=some r:=by
 unfold XG;exact if_pos rfl
def aIQ(s a:List Nat)(r:V):abq s a r [H s,H a]=some r:=by
 unfold abq;exact if_pos ⟨rfl,rfl⟩
def FP{A:List V->Option V}{F:Fun}{args:List V}{r:V}(e:A args=some r)(h:Hp):rD A F args h=D r h:=by
 unfold rD;rw[e]
def auy(G:Nat)(A:List V->Option (V×List Ob))(F:Fun):Fun:=λargs h=>match A args with
 |some r=>Tm G [] r.2 r.1 [] h
 |none=>F args h
def auz(G:Nat)(F:Fun)(l:List Pos)(args:List V)(r:V×List Ob):Bool:=
 (aud G 0 args [] [] r.2 r.1&&(eqL args (Ur (tau G []) args)&&a! (afL (XD G args args [])) 0))&&vZ G G (r.2.map some) l r.1 (F args (mkO G []))
def apT{P:Program}{G:Nat}{f:FuncId}{F:Fun}{A:List V->Option (V×List Ob)}{l:List Pos}(c:aG P G f F)(j:∀args r,A args=some r->auz G F l args r=true):aG P G f (auy G A F):=by
 intro args h r h' M w cargs e g d;unfold auy at e;split at e
 ·rename_i q p;have hb:=j _ _ p;unfold auz at hb;simp only[Bool.and_eq_true]at hb;obtain⟨⟨b1,b2,b⟩,i⟩:=hb;have o:XD G args args []= []:=by
   have b:=Nat.eq_of_beq_eq_true b;cases hl:XD G args args [] with
   |nil=>rfl
   |cons a l=>rw[hl]at b;cases b
  have hn:(mkO G []).next.nat=G:=by rw[UD];rfl
  have k:=Does.comp c hn i;have m:=aAA (ks:= []) (cs:= []) (news:=q.2) (rc:=q.1) (n:=0) (a0:=args) c b1 (by simpa[patch]using k);refine m args h r h' M w cargs ?_ g d;unfold als;have hh:XE G args [] args h=some []:=by
   unfold XE;rw[o];dsimp only;rw[b2];simp only[aa0,okC,b2,YW,Y6,ap6,Bool.and_self,if_true]
  rw[hh];exact e
 ·exact c args h r h' M w cargs e g d
end Go.Vm
namespace Go.Proofs.Ik
open Go.Proofs.Tryz
def aN:prog.follows .mixedOrders=true:=kR
def aI:Nat:=7
abbrev fu:=aG prog aI
abbrev xD:=dO prog aI (λ_=>true)
abbrev c_(k:List Nat):=aY prog (kp k)
def aRq:bY:=λid=>match a! id 3 with|true=>some ([0,1,3,0,8,24,56,120,248,511,1023],[(0,.pure),(1,.pure),(2,.heavy),(3,.pure),(4,.pure),(5,.pure),(6,.pure),(7,.alloc),(8,.own 7),(9,.pure),(10,.pure)])|false=>none
def aFz(e:FuncId->Option Fun):FuncId->Option Fun:=λf=>match a! f 14 with|true=>some (xD (λf=>e f) aRq lf f14)|false=>none
def aLB(e:FuncId->Option Fun)(a:∀f F,e f=some F->fu f F):∀f F,aFz e f=some F->fu f F:=aQ (bF aN a func14 kR) (aW)
def aw1:Fun:=auf (levels (λ_=>none) aFz 40) 14
def aSm:fu 14 aw1:=avc (afK aW aLB 40) 14
def aMy:bY:=λid=>none
def aB8:Fun:=xD (λf=>none) aMy lf f106
def aOu:fu 106 aB8:=bF aN aW func106 kR
def aMl:bY:=λid=>none
def aBX:Fun:=xD (λf=>none) aMl lf f182
def aOh:fu 182 aBX:=bF aN aW func182 kR
def aL3:bY:=λid=>match a! id 1 with|true=>some ([0,0,0,7,0,15,63],[(0,.read 0),(1,.read 0),(2,.read 0),(3,.pure),(4,.read 0),(5,.pure),(6,.pure)])|false=>match a! id 4 with|true=>some ([0,0,3,7,0,0,48,112,15,511],[(0,.pure),(1,.pure),(2,.pure),(3,.heavy),(4,.read 1),(5,.pure),(6,.pure),(7,.pure),(8,.pure),(9,.pure)])|false=>none
def aBl:an5:=aDs prog aI (λ_=>true) (λf=>none) aL3 lf f287
def aMB:Jk prog aI 287 aBl:=aId aN aW func287 kR
def aMz:bY:=λid=>match a! id 22 with|true=>some ([0,0,1,7],[(0,.pure),(1,.read 0),(2,.pure),(3,.heavy)])|false=>none
def aMC:NV:=λf=>match a! f 287 with|true=>some aBl|false=>none
def aB9:Fun:=aIk prog aI (λ_=>true) (λf=>match a! f 182 with|true=>some aBX|false=>none) aMC aMz lf f105
def aOv:fu 105 aB9:=aLa aN (aQ aOh aW) (avY aMB aE4) func105 kR
def aMA:bY:=λid=>none
def aqZ:Fun:=xD (λf=>match a! f 105 with|true=>some aB9|false=>match a! f 106 with|true=>some aB8|false=>none) aMA lf f104
def aOw:fu 104 aqZ:=bF aN (aQ aOv (aQ aOu aW)) func104 kR
def aQ2:bY:=λid=>match a! id 1 with|true=>some ([0,1,3,7,15,0,32,96,224,480,1023,2047],[(0,.pure),(1,.pure),(2,.pure),(3,.read 0),(4,.heavy),(5,.pure),(6,.pure),(7,.pure),(8,.read 1),(9,.pure),(10,.heavy),(11,.pure)])|false=>none
def anS:Fun:=xD (λf=>none) aQ2 lf f99
def awO:fu 99 anS:=bF aN aW func99 kR
def aRj:bY:=λid=>none
def awX:Fun:=xD (λf=>none) aRj lf f40
def aFZ:fu 40 awX:=bF aN aW func40 kR
def aMv:bY:=λid=>none
def aqW:Fun:=xD (λf=>none) aMv lf f124
def aBi:fu 124 aqW:=bF aN aW func124 kR
def aMb:bY:=λid=>none
def aBR:Fun:=xD (λf=>none) aMb lf f231
def aN8:fu 231 aBR:=bF aN aW func231 kR
def aL7:bY:=λid=>none
def aBP:Fun:=xD (λf=>none) aL7 lf f269
def aN6:fu 269 aBP:=bF aN aW func269 kR
def aMq:bY:=λid=>none
def aB2:Fun:=xD (λf=>match a! f 269 with|true=>some aBP|false=>none) aMq lf f165
def aOm:fu 165 aB2:=bF aN (aQ aN6 aW) func165 kR
def aL4:bY:=λid=>match a! id 1 with|true=>some ([0,1,3,7,0,16,48,112,255,511,0,1024,3072,7168,16383,32767],[(0,.pure),(1,.pure),(2,.pure),(3,.read 0),(4,.pure),(5,.pure),(6,.pure),(7,.read 0),(8,.pure),(9,.read 0),(10,.pure),(11,.pure),(12,.pure),(13,.read 0),(14,.pure),(15,.pure)])|false=>none
def Zn:Fun:=xD (λf=>none) aL4 lf f281
def ait:fu 281 Zn:=bF aN aW func281 kR
def aLO:bY:=λid=>none
def aqO:Fun:=xD (λf=>match a! f 281 with|true=>some Zn|false=>none) aLO lf f367
def aBa:fu 367 aqO:=bF aN (aQ ait aW) func367 kR
def aLF:bY:=λid=>match a! id 1 with|true=>some ([0,1,3,7,15,31,63,127,15,271,783,1807,3855,8191,16383,32767],[(0,.pure),(1,.heavy),(2,.pure),(3,.pure),(4,.pure),(5,.pure),(6,.pure),(7,.read 0),(8,.pure),(9,.pure),(10,.pure),(11,.read 0),(12,.pure),(13,.pure),(14,.pure),(15,.pure)])|false=>none
def aBq:Fun:=xD (λf=>match a! f 281 with|true=>some Zn|false=>none) aLF lf f425
def aNE:fu 425 aBq:=bF aN (aQ ait aW) func425 kR
def aBM:Fun:=aue
def aN3:fu 282 aBM:=auX func282 kR kR kR kR
def aMm:bY:=λid=>none
def aiw:Fun:=xD (λf=>match a! f 282 with|true=>some aBM|false=>none) aMm lf f173
def aqL:fu 173 aiw:=bF aN (aQ aN3 aW) func173 kR
def aMf:bY:=λid=>none
def aBT:Fun:=xD (λf=>match a! f 173 with|true=>some aiw|false=>none) aMf lf f205
def aOc:fu 205 aBT:=bF aN (aQ aqL aW) func205 kR
def aQ5:bY:=λid=>none
def anT:Fun:=xD (λf=>match a! f 173 with|true=>some aiw|false=>none) aQ5 lf f96
def awP:fu 96 anT:=bF aN (aQ aqL aW) func96 kR
def aBL:Fun:=av3
def aN2:fu 289 aBL:=aqn func289 kR kR kR kR
def aMk:bY:=λid=>none
def aqU:Fun:=xD (λf=>match a! f 289 with|true=>some aBL|false=>none) aMk lf f184
def aBh:fu 184 aqU:=bF aN (aQ aN2 aW) func184 kR
def aMx:bY:=λid=>none
def aqY:Fun:=xD (λf=>match a! f 184 with|true=>some aqU|false=>none) aMx lf f107
def aBj:fu 107 aqY:=bF aN (aQ aBh aW) func107 kR
def aL5:bY:=λid=>none
def aLP:bY:=λid=>match a! id 2 with|true=>some ([0,1,3,7,0,16,48,112,255,511,1023,0,4095],[(0,.pure),(1,.pure),(2,.pure),(3,.read 0),(4,.pure),(5,.pure),(6,.pure),(7,.read 0),(8,.pure),(9,.read 0),(10,.pure),(11,.alloc),(12,.heavy)])|false=>match a! id 17 with|true=>some ([0,0,2,6,14,30,31,127],[(1,.pure),(2,.pure),(3,.pure),(4,.heavy),(0,.read 1),(6,.heavy),(5,.pure),(7,.pure)])|false=>none
def aA9(e:FuncId->Option Fun):FuncId->Option Fun:=λf=>match a! f 280 with|true=>some (xD (λf=>match a! f 367 with|true=>some aqO|false=>e f) aL5 lf f280)|false=>match a! f 366 with|true=>some (xD (λf=>match a! f 107 with|true=>some aqY|false=>match a! f 281 with|true=>some Zn|false=>match a! f 367 with|true=>some aqO|false=>match a! f 425 with|true=>some aBq|false=>e f) aLP lf f366)|false=>none
def aIZ(e:FuncId->Option Fun)(a:∀f F,e f=some F->fu f F):∀f F,aA9 e f=some F->fu f F:=aQ (bF aN (aQ aBa a) func280 kR) (aQ (bF aN (aQ aBj (aQ ait (aQ aBa (aQ aNE a)))) func366 kR) (aW))
def aBN:Fun:=auf (levels (λ_=>none) aA9 40) 280
def aN4:fu 280 aBN:=avc (afK aW aIZ 40) 280
def aMn:bY:=λid=>match a! id 10 with|true=>some ([0,0,2,6,14,30,62,126,254,510,1022,2046,254,4350,16382,32766,255,131071],[(1,.pure),(2,.pure),(3,.pure),(4,.heavy),(0,.pure),(5,.pure),(6,.pure),(7,.pure),(8,.pure),(9,.pure),(10,.pure),(11,.read 0),(12,.pure),(13,.pure),(14,.pure),(15,.pure),(16,.pure),(17,.pure)])|false=>none
def aBY:Fun:=xD (λf=>match a! f 280 with|true=>some aBN|false=>match a! f 281 with|true=>some Zn|false=>none) aMn lf f172
def aOi:fu 172 aBY:=bF aN (aQ aN4 (aQ ait aW)) func172 kR
def aLN:bY:=λid=>none
def aBz:Fun:=xD (λf=>match a! f 184 with|true=>some aqU|false=>none) aLN lf f376
def aNP:fu 376 aBz:=bF aN (aQ aBh aW) func376 kR
def aL0:bY:=λid=>match a! id 3 with|true=>some ([0,0,3,0,0,0,32,112,248,7,1023,2047],[(0,.pure),(1,.pure),(2,.pure),(3,.pure),(4,.pure),(5,.pure),(6,.pure),(7,.pure),(8,.pure),(9,.pure),(10,.pure),(11,.pure)])|false=>none
def aBI:Fun:=xD (λf=>match a! f 376 with|true=>some aBz|false=>none) aL0 lf f294
def aNY:fu 294 aBI:=bF aN (aQ aNP aW) func294 kR
def aMi:bY:=λid=>none
def aqS:Fun:=xD (λf=>match a! f 294 with|true=>some aBI|false=>none) aMi lf f196
def aBg:fu 196 aqS:=bF aN (aQ aNY aW) func196 kR
def aRg:bY:=λid=>none
def awS:Fun:=xD (λf=>match a! f 107 with|true=>some aqY|false=>none) aRg lf f54
def aFW:fu 54 awS:=bF aN (aQ aBj aW) func54 kR
def aL2:bY:=λid=>none
def aBK:Fun:=xD (λf=>none) aL2 lf f291
def aN0:fu 291 aBK:=bF aN aW func291 kR
def aMj:bY:=λid=>none
def aBW:Fun:=xD (λf=>match a! f 291 with|true=>some aBK|false=>none) aMj lf f186
def aOg:fu 186 aBW:=bF aN (aQ aN0 aW) func186 kR
def aLY:bY:=λid=>none
def aBG:Fun:=xD (λf=>none) aLY lf f297
def aNW:fu 297 aBG:=bF aN aW func297 kR
def aQ6:bY:=λid=>none
def anU:Fun:=xD (λf=>none) aQ6 lf f95
def awQ:fu 95 anU:=bF aN aW func95 kR
def aRc:bY:=λid=>none
def aGg:Fun:=xD (λf=>match a! f 54 with|true=>some awS|false=>match a! f 95 with|true=>some anU|false=>none) aRc lf f80
def aSa:fu 80 aGg:=bF aN (aQ aFW (aQ awQ aW)) func80 kR
def aMd:bY:=λid=>none
def aqR:Fun:=xD (λf=>match a! f 80 with|true=>some aGg|false=>match a! f 95 with|true=>some anU|false=>none) aMd lf f212
def aOa:fu 212 aqR:=bF aN (aQ aSa (aQ awQ aW)) func212 kR
def aMr:bY:=λid=>none
def aB4:Fun:=xD (λf=>none) aMr lf f147
def aOo:fu 147 aB4:=bF aN aW func147 kR
def aMa:bY:=λid=>match a! id 4 with|true=>some ([0,0,2,6,1,31],[(0,.read 0),(4,.heavy),(1,.pure),(2,.read 1),(3,.pure),(5,.pure)])|false=>match a! id 6 with|true=>some ([0,0,2,6,14,30,62,7,255],[(0,.read 0),(1,.pure),(2,.pure),(7,.heavy),(3,.pure),(4,.read 1),(5,.pure),(6,.pure),(8,.pure)])|false=>none
def aBQ:Fun:=xD (λf=>match a! f 124 with|true=>some aqW|false=>match a! f 147 with|true=>some aB4|false=>none) aMa lf f232
def aN7:fu 232 aBQ:=bF aN (aQ aBi (aQ aOo aW)) func232 kR
def aMs:bY:=λid=>none
def aB5:Fun:=xD (λf=>match a! f 124 with|true=>some aqW|false=>match a! f 231 with|true=>some aBR|false=>match a! f 232 with|true=>some aBQ|false=>none) aMs lf f142
def aOp:fu 142 aB5:=bF aN (aQ aBi (aQ aN8 (aQ aN7 aW))) func142 kR
def aRf:bY:=λid=>none
def aGj:Fun:=xD (λf=>none) aRf lf f55
def aSd:fu 55 aGj:=bF aN aW func55 kR
def aLQ:bY:=λid=>none
def aqP:Fun:=xD (λf=>none) aLQ lf f365
def aBb:fu 365 aqP:=bF aN aW func365 kR
def aL6:bY:=λid=>none
def aBO:Fun:=xD (λf=>match a! f 365 with|true=>some aqP|false=>none) aL6 lf f279
def aN5:fu 279 aBO:=bF aN (aQ aBb aW) func279 kR
def aMp:bY:=λid=>none
def aB0:Fun:=xD (λf=>match a! f 279 with|true=>some aBO|false=>none) aMp lf f170
def aOk:fu 170 aB0:=bF aN (aQ aN5 aW) func170 kR
def aLR:bY:=λid=>none
def aBA:Fun:=xD (λf=>match a! f 365 with|true=>some aqP|false=>none) aLR lf f352
def aNQ:fu 352 aBA:=bF aN (aQ aBb aW) func352 kR
def aL8:bY:=λid=>none
def aiu:Fun:=xD (λf=>match a! f 352 with|true=>some aBA|false=>none) aL8 lf f251
def aBe:fu 251 aiu:=bF aN (aQ aNQ aW) func251 kR
def aMo:bY:=λid=>none
def aBZ:Fun:=xD (λf=>match a! f 186 with|true=>some aBW|false=>match a! f 251 with|true=>some aiu|false=>none) aMo lf f171
def aOj:fu 171 aBZ:=bF aN (aQ aOg (aQ aBe aW)) func171 kR
def aLZ:bY:=λid=>none
def aBH:Fun:=xD (λf=>none) aLZ lf f295
def aNX:fu 295 aBH:=bF aN aW func295 kR
def aLL:bY:=λid=>none
def aBx:Fun:=xD (λf=>none) aLL lf f382
def aNN:fu 382 aBx:=bF aN aW func382 kR
def aLX:bY:=λid=>match a! id 10 with|true=>some ([0,1,0,0,0,0,48,124,255],[(0,.pure),(1,.heavy),(2,.pure),(3,.pure),(4,.pure),(5,.pure),(6,.pure),(7,.pure),(8,.pure)])|false=>none
def aqQ:Fun:=xD (λf=>match a! f 295 with|true=>some aBH|false=>match a! f 382 with|true=>some aBx|false=>none) aLX lf f299
def aBd:fu 299 aqQ:=bF aN (aQ aNX (aQ aNN aW)) func299 kR
def aL1:bY:=λid=>none
def aBJ:Fun:=xD (λf=>match a! f 299 with|true=>some aqQ|false=>none) aL1 lf f292
def aNZ:fu 292 aBJ:=bF aN (aQ aBd aW) func292 kR
def aMh:bY:=λid=>match a! id 11 with|true=>some ([0,0,2,7,15],[(1,.pure),(2,.heavy),(0,.read 1),(3,.heavy),(4,.heavy)])|false=>none
def aBV:Fun:=xD (λf=>match a! f 205 with|true=>some aBT|false=>match a! f 292 with|true=>some aBJ|false=>match a! f 297 with|true=>some aBG|false=>match a! f 299 with|true=>some aqQ|false=>match a! f 99 with|true=>some anS|false=>none) aMh lf f200
def aOe:fu 200 aBV:=bF aN (aQ aOc (aQ aNZ (aQ aNW (aQ aBd (aQ awO aW))))) func200 kR
def aMw:bY:=λid=>none
def aqX:Fun:=xD (λf=>match a! f 196 with|true=>some aqS|false=>match a! f 200 with|true=>some aBV|false=>none) aMw lf f120
def aOs:fu 120 aqX:=bF aN (aQ aBg (aQ aOe aW)) func120 kR
def aBw:Fun:=afH 5
def aNM:fu 384 aBw:=ar2 (ps:=f384.params) func384 kR kR kR underlying43 kR
def aLW:bY:=λid=>match a! id 0 with|true=>some ([0,1,3,7,15,31,0,127,255,0,512,1536,3584,7680,16383,32767],[(0,.pure),(1,.pure),(2,.pure),(3,.read 0),(4,.heavy),(5,.pure),(6,.pure),(7,.pure),(8,.heavy),(9,.pure),(10,.pure),(11,.pure),(12,.read 2),(13,.pure),(14,.pure),(15,.pure)])|false=>none
def aBF:Fun:=xD (λf=>match a! f 384 with|true=>some aBw|false=>none) aLW lf f303
def aNV:fu 303 aBF:=bF aN (aQ aNM aW) func303 kR
def aMg:bY:=λid=>match a! id 3 with|true=>some ([0,1,3,7,15,0,32,96,224,480,1023,0,4095],[(0,.pure),(1,.pure),(2,.pure),(3,.read 0),(4,.heavy),(5,.pure),(6,.pure),(7,.pure),(8,.read 1),(9,.pure),(10,.pure),(11,.pure),(12,.pure)])|false=>none
def aBU:Fun:=xD (λf=>match a! f 173 with|true=>some aiw|false=>match a! f 303 with|true=>some aBF|false=>none) aMg lf f204
def aOd:fu 204 aBU:=bF aN (aQ aqL (aQ aNV aW)) func204 kR
def aMt:bY:=λid=>none
def aB6:Fun:=xD (λf=>match a! f 204 with|true=>some aBU|false=>match a! f 96 with|true=>some anT|false=>match a! f 99 with|true=>some anS|false=>none) aMt lf f128
def aOq:fu 128 aB6:=bF aN (aQ aOd (aQ awP (aQ awO aW))) func128 kR
def aQ3:bY:=λid=>match a! id 0 with|true=>some ([0,1,3,0,8,31],[(3,.pure),(4,.heavy),(0,.pure),(1,.pure),(2,.pure),(5,.heavy)])|false=>none
def aF9:Fun:=xD (λf=>match a! f 128 with|true=>some aB6|false=>match a! f 96 with|true=>some anT|false=>none) aQ3 lf f98
def aR3:fu 98 aF9:=bF aN (aQ aOq (aQ awP aW)) func98 kR
def aLH:bY:=λid=>none
def aBs:Fun:=xD (λf=>none) aLH lf f394
def aNI:fu 394 aBs:=bF aN aW func394 kR
def aBp:Fun:=cntF
def aND:fu 442 aBp:=aLp func442 kR kR kR kR
def aLM:bY:=λid=>none
def aBy:Fun:=xD (λf=>match a! f 442 with|true=>some aBp|false=>none) aLM lf f378
def aNO:fu 378 aBy:=bF aN (aQ aND aW) func378 kR
def aLJ:bY:=λid=>none
def aBu:Fun:=xD (λf=>match a! f 378 with|true=>some aBy|false=>none) aLJ lf f392
def aNK:fu 392 aBu:=bF aN (aQ aNO aW) func392 kR
def aLU:bY:=λid=>none
def aBD:Fun:=xD (λf=>match a! f 392 with|true=>some aBu|false=>none) aLU lf f325
def aNT:fu 325 aBD:=bF aN (aQ aNK aW) func325 kR
def aLE:bY:=λid=>none
def aBo:Fun:=xD (λf=>none) aLE lf f447
def aNC:fu 447 aBo:=bF aN aW func447 kR
def aLK:bY:=λid=>none
def aBv:Fun:=xD (λf=>match a! f 447 with|true=>some aBo|false=>none) aLK lf f388
def aNL:fu 388 aBv:=bF aN (aQ aNC aW) func388 kR
def aLV:bY:=λid=>none
def aBE:Fun:=xD (λf=>match a! f 388 with|true=>some aBv|false=>none) aLV lf f309
def aNU:fu 309 aBE:=bF aN (aQ aNL aW) func309 kR
def aMe:bY:=λid=>none
def aBS:Fun:=xD (λf=>match a! f 309 with|true=>some aBE|false=>none) aMe lf f209
def aOb:fu 209 aBS:=bF aN (aQ aNU aW) func209 kR
def aMu:bY:=λid=>none
def aqV:Fun:=xD (λf=>match a! f 209 with|true=>some aBS|false=>none) aMu lf f126
def aOr:fu 126 aqV:=bF aN (aQ aOb aW) func126 kR
def aL9:bY:=λid=>none
def aiv:Fun:=xD (λf=>none) aL9 lf f233
def aBf:fu 233 aiv:=bF aN aW func233 kR
def aLI:bY:=λid=>none
def aBt:Fun:=xD (λf=>match a! f 233 with|true=>some aiv|false=>none) aLI lf f393
def aNJ:fu 393 aBt:=bF aN (aQ aBf aW) func393 kR
def aLT:bY:=λid=>none
def aBC:Fun:=xD (λf=>match a! f 196 with|true=>some aqS|false=>match a! f 393 with|true=>some aBt|false=>none) aLT lf f326
def aNS:fu 326 aBC:=bF aN (aQ aBg (aQ aNJ aW)) func326 kR
def aQ8:bY:=λid=>none
def aGc:Fun:=xD (λf=>none) aQ8 lf f93
def aR6:fu 93 aGc:=bF aN aW func93 kR
def aQ4:bY:=λid=>match a! id 18 with|true=>some ([0,1,3,7,15,3,35,99,255,511],[(0,.pure),(1,.pure),(5,.pure),(6,.read 0),(7,.heavy),(2,.pure),(3,.pure),(4,.read 1),(8,.pure),(9,.pure)])|false=>match a! id 20 with|true=>some ([0,0,2,0,8,24,0,64,192,504,0,1024,3072,8184,16376,32760,65528,131071],[(3,.pure),(4,.read 0),(5,.heavy),(6,.pure),(7,.pure),(8,.read 1),(9,.heavy),(10,.pure),(11,.pure),(12,.read 2),(13,.heavy),(0,.pure),(1,.pure),(2,.pure),(14,.pure),(15,.pure),(16,.alloc),(17,.heavy)])|false=>match a! id 22 with|true=>some ([0,1,3,7,0,16,48,112,240,15,1023],[(0,.pure),(1,.pure),(2,.pure),(3,.read 0),(4,.pure),(5,.pure),(6,.pure),(7,.read 0),(8,.pure),(9,.pure),(10,.pure)])|false=>none
def aGa:Fun:=xD (λf=>none) aQ4 lf f97
def aR4:fu 97 aGa:=bF aN aW func97 kR
def aLC:bY:=λid=>match a! id 4 with|true=>some ([0,0,3,7,15,15,15,111,239,15,15,1039,3599,7695,16383,32767,65535],[(0,.pure),(1,.pure),(2,.pure),(3,.pure),(4,.pure),(5,.pure),(6,.pure),(7,.pure),(8,.read 0),(9,.pure),(10,.pure),(11,.pure),(12,.pure),(13,.read 0),(14,.heavy),(15,.pure),(16,.pure)])|false=>match a! id 6 with|true=>some ([0,0,0,0,8,0,0,64,224,480,0,0,3072,7168,16355,32739,65535,131071],[(0,.pure),(1,.pure),(5,.pure),(6,.pure),(7,.pure),(8,.pure),(9,.read 0),(10,.pure),(11,.pure),(12,.pure),(13,.read 0),(14,.pure),(15,.heavy),(2,.pure),(3,.pure),(4,.pure),(16,.pure),(17,.heavy)])|false=>none
def aBm:Fun:=xD (λf=>none) aLC lf f502
def aNA:fu 502 aBm:=bF aN aW func502 kR
def aLD:bY:=λid=>match a! id 17 with|true=>some ([0,1,3,7,7,7,39,119,247,7,7,1543,3591,8191,16383,32767,65535],[(0,.pure),(1,.pure),(2,.pure),(3,.pure),(4,.pure),(5,.pure),(6,.pure),(7,.pure),(8,.read 0),(9,.pure),(10,.pure),(11,.pure),(12,.read 0),(13,.heavy),(14,.pure),(15,.pure),(16,.pure)])|false=>none
def aBn:Fun:=xD (λf=>match a! f 502 with|true=>some aBm|false=>none) aLD lf f460
def aNB:fu 460 aBn:=bF aN (aQ aNA aW) func460 kR
def aLG:bY:=λid=>none
def aBr:Fun:=xD (λf=>match a! f 165 with|true=>some aB2|false=>match a! f 460 with|true=>some aBn|false=>none) aLG lf f395
def aNH:fu 395 aBr:=bF aN (aQ aOm (aQ aNB aW)) func395 kR
def aLS:bY:=λid=>match a! id 8 with|true=>some ([0,1,3,7,15,31,7,7,135,455,967,1991,4095,8191],[(0,.pure),(1,.pure),(2,.pure),(3,.pure),(4,.read 0),(5,.pure),(6,.pure),(7,.pure),(8,.pure),(9,.pure),(10,.pure),(11,.read 0),(12,.pure),(13,.pure)])|false=>match a! id 9 with|true=>some ([0,0,2,0,0,16,56,120,248,0,512,2040,4095,8191,16383],[(0,.pure),(1,.pure),(2,.pure),(3,.pure),(4,.pure),(5,.pure),(6,.pure),(7,.pure),(8,.read 0),(9,.pure),(10,.read 0),(11,.pure),(12,.pure),(13,.pure),(14,.heavy)])|false=>none
def aBB:Fun:=xD (λf=>match a! f 394 with|true=>some aBs|false=>match a! f 395 with|true=>some aBr|false=>none) aLS lf f327
def aNR:fu 327 aBB:=bF aN (aQ aNI (aQ aNH aW)) func327 kR
def aMc:bY:=λid=>none
def Zo:Fun:=xD (λf=>match a! f 325 with|true=>some aBD|false=>match a! f 326 with|true=>some aBC|false=>match a! f 327 with|true=>some aBB|false=>none) aMc lf f224
def aN9:fu 224 Zo:=bF aN (aQ aNT (aQ aNS (aQ aNR aW))) func224 kR
def aB7:Fun:=OM
def aOt:fu 108 aB7:=afV func108 kR kR kR kR
def aRe:bY:=λid=>none
def aGi:Fun:=xD (λf=>match a! f 108 with|true=>some aB7|false=>none) aRe lf f56
def aSc:fu 56 aGi:=bF aN (aQ aOt aW) func56 kR
def aRo:bY:=λid=>none
def an0:Fun:=xD (λf=>match a! f 54 with|true=>some awS|false=>match a! f 55 with|true=>some aGj|false=>match a! f 56 with|true=>some aGi|false=>none) aRo lf f26
def aF3:fu 26 an0:=bF aN (aQ aFW (aQ aSd (aQ aSc aW))) func26 kR
def aB1:Fun:=Zk U
def aOl:fu 166 aB1:=anO func166 kR kR kR U kR
def aRb:bY:=λid=>none
def aGf:Fun:=xD (λf=>match a! f 166 with|true=>some aB1|false=>none) aRb lf f84
def aR9:fu 84 aGf:=bF aN (aQ aOl aW) func84 kR
def aRn:bY:=λid=>none
def anZ:Fun:=xD (λf=>none) aRn lf f27
def aF2:fu 27 anZ:=bF aN aW func27 kR
def aRm:bY:=λid=>none
def anY:Fun:=xD (λf=>none) aRm lf f28
def aF1:fu 28 anY:=bF aN aW func28 kR
def aRl:bY:=λid=>none
def aGl:Fun:=xD (λf=>none) aRl lf f29
def aSk:fu 29 aGl:=bF aN aW func29 kR
def aRk:bY:=λid=>none
def aGk:Fun:=xD (λf=>none) aRk lf f30
def aSj:fu 30 aGk:=bF aN aW func30 kR
def aQ9:bY:=λid=>none
def aGd:Fun:=xD (λf=>none) aQ9 lf f92
def aR7:fu 92 aGd:=bF aN aW func92 kR
def aRa:bY:=λid=>match a! id 5 with|true=>some ([0,1,3,7,0,16,63,0,128,384,896,2047,4095,8191,8191,16383,65535],[(0,.pure),(1,.pure),(2,.pure),(3,.read 0),(4,.pure),(5,.alloc),(6,.heavy),(7,.pure),(8,.pure),(9,.pure),(10,.read 1),(11,.heavy),(12,.pure),(13,.pure),(14,.pure),(15,.pure),(16,.pure)])|false=>match a! id 10 with|true=>some ([0,0,2,6,14,0,32,96,224,510,1023],[(0,.pure),(1,.pure),(2,.pure),(3,.pure),(4,.read 0),(5,.pure),(6,.pure),(7,.pure),(8,.read 0),(9,.pure),(10,.pure)])|false=>none
def aGe:Fun:=xD (λf=>match a! f 170 with|true=>some aB0|false=>match a! f 171 with|true=>some aBZ|false=>match a! f 172 with|true=>some aBY|false=>match a! f 92 with|true=>some aGd|false=>none) aRa lf f91
def aR8:fu 91 aGe:=bF aN (aQ aOk (aQ aOj (aQ aOi (aQ aR7 aW)))) func91 kR
def aRi:bY:=λid=>match a! id 10 with|true=>some ([0,1,3,7,0,16,48,112,240,511,1023],[(0,.pure),(1,.pure),(2,.pure),(3,.read 0),(4,.pure),(5,.pure),(6,.pure),(7,.read 0),(8,.pure),(9,.pure),(10,.pure)])|false=>none
def Zm:Fun:=xD (λf=>match a! f 91 with|true=>some aGe|false=>none) aRi lf f41
def anR:fu 41 Zm:=bF aN (aQ aR8 aW) func41 kR
def aRd:bY:=λid=>none
def aGh:Fun:=xD (λf=>none) aRd lf f58
def aSb:fu 58 aGh:=bF aN aW func58 kR
def aQ7:bY:=λid=>none
def aGb:Fun:=xD (λf=>match a! f 58 with|true=>some aGh|false=>none) aQ7 lf f94
def aR5:fu 94 aGb:=bF aN (aQ aSb aW) func94 kR
def aRh:bY:=λid=>match a! id 16 with|true=>some ([0,1,3,0,8,24,56,0,0,256,768,2040,4095],[(3,.pure),(4,.pure),(5,.pure),(6,.read 0),(7,.pure),(8,.pure),(9,.read 0),(10,.pure),(11,.heavy),(0,.pure),(1,.pure),(2,.pure),(12,.heavy)])|false=>match a! id 20 with|true=>some ([0,1,3,7,0,16,48,15,255],[(0,.pure),(1,.pure),(2,.pure),(3,.heavy),(4,.pure),(5,.read 1),(6,.pure),(7,.pure),(8,.pure)])|false=>none
def anW:Fun:=xD (λf=>match a! f 84 with|true=>some aGf|false=>match a! f 93 with|true=>some aGc|false=>match a! f 94 with|true=>some aGb|false=>match a! f 95 with|true=>some anU|false=>match a! f 96 with|true=>some anT|false=>match a! f 97 with|true=>some aGa|false=>match a! f 98 with|true=>some aF9|false=>match a! f 99 with|true=>some anS|false=>none) aRh lf f42
def aFY:fu 42 anW:=bF aN (aQ aR9 (aQ aR6 (aQ aR5 (aQ awQ (aQ awP (aQ aR4 (aQ aR3 (aQ awO aW)))))))) func42 kR
def aRr:bY:=λid=>none
def an1:Fun:=xD (λf=>match a! f 40 with|true=>some awX|false=>match a! f 41 with|true=>some Zm|false=>match a! f 42 with|true=>some anW|false=>none) aRr lf f13
def aF6:fu 13 an1:=bF aN (aQ aFZ (aQ anR (aQ aFY aW))) func13 kR
def aTe:bY:=λid=>none
def aD2:Fun:=xD (λf=>match a! f 13 with|true=>some an1|false=>match a! f 26 with|true=>some an0|false=>match a! f 27 with|true=>some anZ|false=>match a! f 28 with|true=>some anY|false=>match a! f 29 with|true=>some aGl|false=>match a! f 30 with|true=>some aGk|false=>none) aTe lf f9
def aTg:fu 9 aD2:=bF aN (aQ aF6 (aQ aF3 (aQ aF2 (aQ aF1 (aQ aSk (aQ aSj aW)))))) func9 kR
def aRp:bY:=λid=>none
def aw0:Fun:=xD (λf=>none) aRp lf f18
def aSl:fu 18 aw0:=bF aN aW func18 kR
def aDE:((d! 100).all λn=>vZ aI aI [] [] (H (dZ n)) (aqV [Y U (n:Int)] (mkO aI [])))=true:=kR
def aw2:Fun:=rD aqJ aqV
def aJm:fu 126 aw2:=lU aOr λargs r e=>by
 obtain⟨n,hn,rfl,rfl⟩:=aA7 e;exact⟨rfl,c!.1 aDE n (b!.2 hn)⟩
def aFh:((d! 100).all λn=>vZ aI aI [] [] (H (dZ n)) (aw1 [Y U (n:Int)] (mkO aI [])))=true:=kR
def aB3:Fun:=rD aqJ aw1
def aOn:fu 14 aB3:=lU aSm λargs r e=>by
 obtain⟨n,hn,rfl,rfl⟩:=aA7 e;exact⟨rfl,c!.1 aFh n (b!.2 hn)⟩
def aKE:vZ aI aI [] [] (.tuple (.cons (H [73,78,66,79,88]) (.cons (Y U 0) .nil))) (aqX [H [73,78,66,79,88]] (mkO aI []))=true:=kR
def aw4:Fun:=rD (XG [73,78,66,79,88] (.tuple (.cons (H [73,78,66,79,88]) (.cons (Y U 0) .nil)))) aqX
def aJn:fu 120 aw4:=lU aOs λargs r e=>by
 obtain⟨rfl,rfl⟩:=TW e;exact⟨rfl,aKE⟩
def aKF:vZ aI aI [] [] (H []) (aqZ [H [],H [105,110,45,114,101,112,108,121,45,116,111]] (mkO aI []))=true:=kR
def aw5:Fun:=rD (abq [] [105,110,45,114,101,112,108,121,45,116,111] (H [])) aqZ
def aJo:fu 104 aw5:=lU aOw λargs r e=>by
 obtain⟨rfl,rfl⟩:=alM e;exact⟨rfl,aKF⟩
def aIT(r:V)(args:List V):Option V:=match args with
 | []=>some r
 |_=>none
def aLw{q:V}{args:List V}{r:V}(e:aIT q args=some r):args= []/\r=q:=by
 unfold aIT at e;split at e
 ·cases e;exact⟨rfl,rfl⟩
 ·cases e
def aSI:vZ aI aI [] [] (K true) (aD2 [] (mkO aI []))=true:=kR
def aF8:Fun:=rD (aIT (K true)) aD2
def aR2:fu 9 aF8:=lU aTg λargs r e=>by
 obtain⟨rfl,rfl⟩:=aLw e;exact⟨rfl,aSI⟩
def rdV(G:Nat)(a b:Int):V×List Ob:=(.tuple (.cons (.slice (Pos.of G) 0 1 (.kn 1)) (.cons (Y U 0) .nil)),[O (N 98 false) [Y U a,Y U b]])
def Tv(args:List V):Option (V×List Ob):=match args with
 |H s:: Y U n:: []=>if 1<=n/\n<=20 then(if s= [49] then some (rdV aI 1 1) else if s= [49,58,42] then some (rdV aI 1 n) else if n<=9/\s= [48+n.toNat] then some (rdV aI n n) else none) else none
 |_=>none
def ahZ:List Pos:= [Pos.of 13]
def aKC:((d! 20).all λn=>auz aI Zo ahZ [H [49],Y U ((n:Int)+1)] (rdV aI 1 1))=true:=kR
def aKB:((d! 20).all λn=>auz aI Zo ahZ [H [49,58,42],Y U ((n:Int)+1)] (rdV aI 1 ((n:Int)+1)))=true:=kR
def aKA:((d! 9).all λn=>auz aI Zo ahZ [H [48+(n+1)],Y U ((n:Int)+1)] (rdV aI ((n:Int)+1) ((n:Int)+1)))=true:=kR
def aIR{args:List V}{r:V×List Ob}(e:Tv args=some r):∃n:Nat,n<20/\((n<9/\args= [H [48+(n+1)],Y U ((n:Int)+1)]/\r=rdV aI ((n:Int)+1) ((n:Int)+1))\/(args= [H [49],Y U ((n:Int)+1)]/\r=rdV aI 1 1)\/(args= [H [49,58,42],Y U ((n:Int)+1)]/\r=rdV aI 1 ((n:Int)+1))):=by
 unfold Tv at e;split at e
 ·rename_i s n;split at e
  ·rename_i hn;have b:(((n - 1).toNat:Int)+1)=n:=by omega
   refine⟨(n - 1).toNat,by omega,?_⟩;rw[b];split at e
   ·rename_i a;cases e;exact Or.inr (Or.inl ⟨by rw[a],rfl⟩)
   ·split at e
    ·rename_i a;cases e;exact Or.inr (Or.inr ⟨by rw[a],rfl⟩)
    ·split at e
     ·rename_i a;cases e;refine Or.inl ⟨by omega,?_,rfl⟩;rw[a.2,show n.toNat=(n - 1).toNat+1 by omega]
     ·cases e
  ·cases e
 ·cases e
def awZ:Fun:=auy aI Tv Zo
def aJj:fu 224 awZ:=apT (l:=ahZ) aN9 λargs r e=>by
 obtain⟨n,hn,h|h|h⟩:=aIR e
 ·obtain⟨a,rfl,rfl⟩:=h;exact c!.1 aKA n (b!.2 a)
 ·obtain⟨rfl,rfl⟩:=h;exact c!.1 aKC n (b!.2 hn)
 ·obtain⟨rfl,rfl⟩:=h;exact c!.1 aKB n (b!.2 hn)
def aHW(n:Nat):V:=.tuple (.cons (Y U (n:Int)) (.cons (K true) .nil))
def aIS(args:List V):Option V:=match args with
 |H s:: []=>((d! 20).find? λn=>decide (dZ n=s)).map aHW
 |_=>none
def aKz:((d! 20).all λn=>vZ aI aI [] [] (aHW n) (aiv [H (dZ n)] (mkO aI [])))=true:=kR
def aLv{args:List V}{r:V}(e:aIS args=some r):∃n:Nat,n<20/\args= [H (dZ n)]/\r=aHW n:=by
 unfold aIS at e;split at e
 ·rename_i s;cases a:(d! 20).find? λn=>decide (dZ n=s) with
  |none=>rw[a]at e;cases e
  |some n=>
   rw[a]at e;cases e;have b:=List.find?_some a;exact⟨n,b!.1 (List.mem_of_find?_eq_some a),by rw[show dZ n=s from of_decide_eq_true b],rfl⟩
 ·cases e
def aJr:Fun:=rD aIS aiv
def aT3:fu 233 aJr:=lU aBf λargs r e=>by
 obtain⟨n,hn,rfl,rfl⟩:=aLv e;exact⟨rfl,c!.1 aKz n (b!.2 hn)⟩
def aKy:vZ aI aI [] [] (.tuple (.cons (H [43,102,108,97,103,115]) (.cons (K true) .nil))) (aiu [H [43,102,108,97,103,115,46,115,105,108,101,110,116],H [46,115,105,108,101,110,116]] (mkO aI []))=true:=kR
def alO:Fun:=rD (abq [43,102,108,97,103,115,46,115,105,108,101,110,116] [46,115,105,108,101,110,116] (.tuple (.cons (H [43,102,108,97,103,115]) (.cons (K true) .nil)))) aiu
def aJi:fu 251 alO:=lU aBe λargs r e=>by
 obtain⟨rfl,rfl⟩:=alM e;exact⟨rfl,aKy⟩
def aHK:vZ aI aI [] [] (.tuple (.cons (H [45,102,108,97,103,115]) (.cons (K true) .nil))) (alO [H [45,102,108,97,103,115,46,115,105,108,101,110,116],H [46,115,105,108,101,110,116]] (mkO aI []))=true:=kR
def aso:Fun:=rD (abq [45,102,108,97,103,115,46,115,105,108,101,110,116] [46,115,105,108,101,110,116] (.tuple (.cons (H [45,102,108,97,103,115]) (.cons (K true) .nil)))) alO
def aF4:fu 251 aso:=lU aJi λargs r e=>by
 obtain⟨rfl,rfl⟩:=alM e;exact⟨rfl,aHK⟩
def aKD:vZ aI aI [] [] (.tuple (.cons (H [36,97,110,115,119,101,114,101,100]) (.cons (K true) .nil))) (aqR [H [92,65,110,115,119,101,114,101,100]] (mkO aI []))=true:=kR
def alP:Fun:=rD (XG [92,65,110,115,119,101,114,101,100] (.tuple (.cons (H [36,97,110,115,119,101,114,101,100]) (.cons (K true) .nil)))) aqR
def aJk:fu 212 alP:=lU aOa λargs r e=>by
 obtain⟨rfl,rfl⟩:=TW e;exact⟨rfl,aKD⟩
def aHL:vZ aI aI [] [] (.tuple (.cons (H [36,100,101,108,101,116,101,100]) (.cons (K true) .nil))) (alP [H [92,68,101,108,101,116,101,100]] (mkO aI []))=true:=kR
def af5:Fun:=rD (XG [92,68,101,108,101,116,101,100] (.tuple (.cons (H [36,100,101,108,101,116,101,100]) (.cons (K true) .nil)))) alP
def aF5:fu 212 af5:=lU aJk λargs r e=>by
 obtain⟨rfl,rfl⟩:=TW e;exact⟨rfl,aHL⟩
def aEK:vZ aI aI [] [] (.tuple (.cons (H [36,100,114,97,102,116]) (.cons (K true) .nil))) (af5 [H [92,68,114,97,102,116]] (mkO aI []))=true:=kR
def abu:Fun:=rD (XG [92,68,114,97,102,116] (.tuple (.cons (H [36,100,114,97,102,116]) (.cons (K true) .nil)))) af5
def aD1:fu 212 abu:=lU aF5 λargs r e=>by
 obtain⟨rfl,rfl⟩:=TW e;exact⟨rfl,aEK⟩
def aCV:vZ aI aI [] [] (.tuple (.cons (H [36,102,108,97,103,103,101,100]) (.cons (K true) .nil))) (abu [H [92,70,108,97,103,103,101,100]] (mkO aI []))=true:=kR
def XJ:Fun:=rD (XG [92,70,108,97,103,103,101,100] (.tuple (.cons (H [36,102,108,97,103,103,101,100]) (.cons (K true) .nil)))) abu
def ay8:fu 212 XJ:=lU aD1 λargs r e=>by
 obtain⟨rfl,rfl⟩:=TW e;exact⟨rfl,aCV⟩
def ayM:vZ aI aI [] [] (.tuple (.cons (H [36,115,101,101,110]) (.cons (K true) .nil))) (XJ [H [92,83,101,101,110]] (mkO aI []))=true:=kR
def af4:Fun:=rD (XG [92,83,101,101,110] (.tuple (.cons (H [36,115,101,101,110]) (.cons (K true) .nil)))) XJ
def awR:fu 212 af4:=lU ay8 λargs r e=>by
 obtain⟨rfl,rfl⟩:=TW e;exact⟨rfl,ayM⟩
def anz:V:=.agg (.cons (Y U 1) (.cons (H [70,76,65,71,83]) (.cons .aP .nil)))
def ant:Ob:=O (N 213 false) [H [70,76,65,71,83],K false,.func (.func 236) .nil .nil]
def awK(args:List V):Option (V×List Ob):=match args with
 | .agg (.cons (Y U n) (.cons (H s) (.cons .aP .nil))):: []=>if n=1/\s= [70,76,65,71,83] then some (.tuple (.cons (.slice (Pos.of aI) 0 1 (.un 3)) (.cons (K true) .nil)),[ant]) else none
 |_=>none
def aFw{args:List V}{r:V×List Ob}(e:awK args=some r):args= [anz]/\r=(.tuple (.cons (.slice (Pos.of aI) 0 1 (.un 3)) (.cons (K true) .nil)),[ant]):=by
 unfold awK at e;split at e
 ·split at e
  ·rename_i h;cases e;exact⟨by rw[h.1,h.2];rfl,rfl⟩
  ·cases e
 ·cases e
def alQ:Fun:=auy aI awK aB5
def aJl:fu 142 alQ:=apT (l:= [Pos.of 18]) aOp λargs r e=>by
 obtain⟨rfl,rfl⟩:=aFw e;kernel_rfl
def aHS(h:Hp):alQ [anz] h=D (.tuple (.cons (.slice h.next 0 1 (.un 3)) (.cons (K true) .nil))) (h.new ant):=(rfl)
def aaY:List (List Nat):= [[92,65,110,115,119,101,114,101,100],[92,68,101,108,101,116,101,100],[92,68,114,97,102,116],[92,70,108,97,103,103,101,100],[92,83,101,101,110]]
def aD0(args:List V):Option V:=match args with
 |Y U n:: []=>if 0<=n/\n<5 then some (H (aaY.getD n.toNat [])) else none
 |_=>none
def aOS:((d! 5).all λn=>vZ aI aI [] [] (H (aaY.getD n [])) (aw0 [Y U (n:Int)] (mkO aI [])))=true:=kR
def aqT:Fun:=rD aD0 aw0
def aOf:fu 18 aqT:=lU aSl λargs r e=>by
 unfold aD0 at e;split at e
 ·rename_i n;split at e
  ·rename_i hn;cases e;refine⟨rfl,?_⟩;have h:=c!.1 aOS n.toNat (b!.2 (by omega))
   rwa[e! hn.1]at h
  ·cases e
 ·cases e
def aAx{n:Nat}(h:n<5)(g:Hp):aqT [Y U (n:Int)] g=D (H (aaY.getD n [])) g:=FP (by unfold aD0;simp only[];rw[if_pos (by omega),h!]) g
end Go.Proofs.Ik
