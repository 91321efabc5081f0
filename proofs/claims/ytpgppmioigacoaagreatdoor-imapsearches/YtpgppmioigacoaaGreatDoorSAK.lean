/- Lemmas. No conditions. -/
import Derived.Test.YtpgppmioigacoaaGreatDoorProg
import Derived.KernelRfl
import Derived.Test.YtpgppmioigacoaaGreatDoorSAG
import Derived.Test.YtpgppmioigacoaaGreatDoorSAH
import Derived.Test.YtpgppmioigacoaaGreatDoorSAI
import Derived.Test.YtpgppmioigacoaaGreatDoorSAJ
set_option linter.all false
set_option maxHeartbeats 4000000
set_option maxRecDepth 100000
open Nat renaming beq→a!,eq_of_beq_eq_true→h!
open Bool renaming and_eq_true_iff→b!
open Go.Vm.Pos renaming of→c!
open List renaming all_eq_true→d!,mem_range→e!,range→g!
open Go.Vm.V renaming int→Y,ptr→X,bool→K,str→H
open Go.IntKind renaming i64→U
open Go.Vm.Ob renaming cells→O
open Go.Vm.Wr renaming rw→N
open Go.Vm.R renaming ok→D
noncomputable section
open Go Go.Proofs Go.Vm
namespace Go.Vm
def eX(n:Nat):List Nat:=match Nat.blt n 10 with|true=> [48+n]|false=> [48+n / 10,48+n % 10]
def apR(args:List V):Option V:=match args with
 |Y U n:: []=>if 0<=n/\n<100 then some (H (eX n.toNat)) else none
 |_=>none
def av4(s:List Nat)(r:V)(args:List V):Option V:=match args with
 |H t:: []=>if t=s then some r else none
 |_=>none
def aC7(s a:List Nat)(r:V)(args:List V):Option V:=match args with
 |H t:: H t':: []=>if t=s/\t'=a then some r else none
 |_=>none
def aAd{args:List V}{r:V}(e:apR args=some r):∃n:Nat,n<100/\args= [Y U (n:Int)]/\r=H (eX n):=by
 unfold apR at e;split at e
 ·split at e
  ·rename_i n hn;cases e;exact⟨n.toNat,by omega,by rw[Int.toNat_of_nonneg hn.1],rfl⟩
  ·cases e
 ·cases e
def aJT{s:List Nat}{q:V}{args:List V}{r:V}(e:av4 s q args=some r):args= [H s]/\r=q:=by
 unfold av4 at e;split at e
 ·split at e
  ·rename_i h;cases e;exact⟨by rw[h],rfl⟩
  ·cases e
 ·cases e
def aHj{s a:List Nat}{q:V}{args:List V}{r:V}(e:aC7 s a q args=some r):args= [H s,H a]/\r=q:=by
 unfold aC7 at e;split at e
 ·split at e
  ·rename_i h;cases e;exact⟨by rw[h.1,h.2],rfl⟩
  ·cases e
 ·cases e
def aAe{n:Nat}(h:n<100):apR [Y U (n:Int)]=some (H (eX n)):=by
 unfold apR;simp only[];rw[if_pos (by omega),Int.toNat_natCast]
def aJU(s:List Nat)(r:V):av4 s r [H s]=some r:=by
 unfold av4;exact if_pos rfl
def Bh{A:List V->Option V}{F:Fun}{args:List V}{r:V}(e:A args=some r)(h:Hp):zL A F args h=D r h:=by
 unfold zL;rw[e]
def aem(G:Nat)(A:List V->Option (V×List Ob))(F:Fun):Fun:=λargs h=>match A args with
 |some r=>SE G [] r.2 r.1 [] h
 |none=>F args h
def akj(G:Nat)(F:Fun)(l:List Pos)(args:List V)(r:V×List Ob):Bool:=
 (att G 0 args [] [] r.2 r.1&&(eqL args (Ue (tau G []) args)&&a! (aeV (Xn G args args [])) 0))&&DJ G G (r.2.map some) l r.1 (F args (mkO G []))
def ag0{P:Program}{G:Nat}{f:FuncId}{F:Fun}{A:List V->Option (V×List Ob)}{l:List Pos}(c:aH P G f F)(j:∀args r,A args=some r->akj G F l args r=true):aH P G f (aem G A F):=by
 intro args h r h' M w cargs e g d;unfold aem at e;split at e
 ·rename_i q p;have hb:=j _ _ p;unfold akj at hb;simp only[Bool.and_eq_true]at hb;obtain⟨⟨b1,b2,b⟩,i⟩:=hb;have o:Xn G args args []= []:=by
   have b:=h! b;cases hl:Xn G args args [] with
   |nil=>rfl
   |cons a l=>rw[hl]at b;cases b
  have hn:(mkO G []).next.nat=G:=by rw[Uo];rfl
  have k:=Does.comp c hn i;have m:=azF (ks:= []) (cs:= []) (news:=q.2) (rc:=q.1) (n:=0) (a0:=args) c b1 (by simpa[patch]using k);refine m args h r h' M w cargs ?_ g d;unfold akC;have hh:Xo G args [] args h=some []:=by
   unfold Xo;rw[o];dsimp only;rw[b2];simp only[aah,okC,b2,XV,X6,ao8,Bool.and_self,if_true]
  rw[hh];exact e
 ·exact c args h r h' M w cargs e g d
end Go.Vm
namespace Go.Proofs.Ik
open Go.Proofs.Tryz
def aO:prog.follows .mixedOrders=true:=kR
def aI:Nat:=7
abbrev fu:=aH prog aI
abbrev xD:=dJ prog aI (λ_=>true)
abbrev c_(k:List Nat):=aY prog (kp k)
def aOK:bQ:=λid=>match a! id 3 with|true=>some ([0,1,3,0,8,24,56,120,248,511,1023],[(0,.pure),(1,.pure),(2,.heavy),(3,.pure),(4,.pure),(5,.pure),(6,.pure),(7,.alloc),(8,.own 7),(9,.pure),(10,.pure)])|false=>none
def aEE(e:FuncId->Option Fun):FuncId->Option Fun:=λf=>match a! f 14 with|true=>some (xD (λf=>e f) aOK lf f14)|false=>none
def aJ1(e:FuncId->Option Fun)(a:∀f F,e f=some F->fu f F):∀f F,aEE e f=some F->fu f F:=aP (bF aO a func14 kR) (aW)
def awi:Fun:=atw (levels (λ_=>none) aEE 40) 14
def aPr:fu 14 awi:=auJ (aeU aW aJ1 40) 14
def aKY:bQ:=λid=>none
def aqa:Fun:=xD (λf=>none) aKY lf f182
def aAn:fu 182 aqa:=bF aO aW func182 kR
def aOo:bQ:=λid=>match a! id 1 with|true=>some ([0,1,3,7,15,0,32,96,224,480,1023,2047],[(0,.pure),(1,.pure),(2,.pure),(3,.read 0),(4,.heavy),(5,.pure),(6,.pure),(7,.pure),(8,.read 1),(9,.pure),(10,.heavy),(11,.pure)])|false=>none
def amQ:Fun:=xD (λf=>none) aOo lf f99
def av9:fu 99 amQ:=bF aO aW func99 kR
def aOE:bQ:=λid=>none
def awf:Fun:=xD (λf=>none) aOE lf f40
def aEF:fu 40 awf:=bF aO aW func40 kR
def aKM:bQ:=λid=>none
def aA1:Fun:=xD (λf=>none) aKM lf f269
def aMZ:fu 269 aA1:=bF aO aW func269 kR
def aK4:bQ:=λid=>none
def aBe:Fun:=xD (λf=>match a! f 269 with|true=>some aA1|false=>none) aK4 lf f165
def aNc:fu 165 aBe:=bF aO (aP aMZ aW) func165 kR
def aKJ:bQ:=λid=>match a! id 1 with|true=>some ([0,1,3,7,0,16,48,112,255,511,0,1024,3072,7168,16383,32767],[(0,.pure),(1,.pure),(2,.pure),(3,.read 0),(4,.pure),(5,.pure),(6,.pure),(7,.read 0),(8,.pure),(9,.read 0),(10,.pure),(11,.pure),(12,.pure),(13,.read 0),(14,.pure),(15,.pure)])|false=>none
def YB:Fun:=xD (λf=>none) aKJ lf f281
def ahz:fu 281 YB:=bF aO aW func281 kR
def aKr:bQ:=λid=>none
def ap4:Fun:=xD (λf=>match a! f 281 with|true=>some YB|false=>none) aKr lf f367
def aAi:fu 367 ap4:=bF aO (aP ahz aW) func367 kR
def aKc:bQ:=λid=>match a! id 1 with|true=>some ([0,1,3,7,15,31,63,127,15,271,783,1807,3855,8191,16383,32767],[(0,.pure),(1,.heavy),(2,.pure),(3,.pure),(4,.pure),(5,.pure),(6,.pure),(7,.read 0),(8,.pure),(9,.pure),(10,.pure),(11,.read 0),(12,.pure),(13,.pure),(14,.pure),(15,.pure)])|false=>none
def aAA:Fun:=xD (λf=>match a! f 281 with|true=>some YB|false=>none) aKc lf f425
def aMu:fu 425 aAA:=bF aO (aP ahz aW) func425 kR
def aAZ:Fun:=atu
def aMX:fu 282 aAZ:=auh func282 kR kR kR kR
def aKZ:bQ:=λid=>none
def ahE:Fun:=xD (λf=>match a! f 282 with|true=>some aAZ|false=>none) aKZ lf f173
def apW:fu 173 ahE:=bF aO (aP aMX aW) func173 kR
def aKR:bQ:=λid=>none
def aA5:Fun:=xD (λf=>match a! f 173 with|true=>some ahE|false=>none) aKR lf f205
def aM4:fu 205 aA5:=bF aO (aP apW aW) func205 kR
def aOr:bQ:=λid=>none
def amR:Fun:=xD (λf=>match a! f 173 with|true=>some ahE|false=>none) aOr lf f96
def awc:fu 96 amR:=bF aO (aP apW aW) func96 kR
def ap8:Fun:=aCD
def aAl:fu 289 ap8:=azM func289 kR kR kR kR
def aKW:bQ:=λid=>none
def YD:Fun:=xD (λf=>match a! f 289 with|true=>some ap8|false=>match a! f 289 with|true=>some ap8|false=>none) aKW lf f184
def ahA:fu 184 YD:=bF aO (aP aAl (aP aAl aW)) func184 kR
def aK8:bQ:=λid=>none
def ahG:Fun:=xD (λf=>match a! f 184 with|true=>some YD|false=>match a! f 184 with|true=>some YD|false=>none) aK8 lf f107
def apX:fu 107 ahG:=bF aO (aP ahA (aP ahA aW)) func107 kR
def aKK:bQ:=λid=>none
def aKs:bQ:=λid=>match a! id 2 with|true=>some ([0,1,3,7,0,16,48,112,255,511,1023,0,4095],[(0,.pure),(1,.pure),(2,.pure),(3,.read 0),(4,.pure),(5,.pure),(6,.pure),(7,.read 0),(8,.pure),(9,.read 0),(10,.pure),(11,.alloc),(12,.heavy)])|false=>match a! id 17 with|true=>some ([0,0,2,6,14,30,31,127],[(1,.pure),(2,.pure),(3,.pure),(4,.heavy),(0,.read 1),(6,.heavy),(5,.pure),(7,.pure)])|false=>none
def aAf(e:FuncId->Option Fun):FuncId->Option Fun:=λf=>match a! f 280 with|true=>some (xD (λf=>match a! f 367 with|true=>some ap4|false=>e f) aKK lf f280)|false=>match a! f 366 with|true=>some (xD (λf=>match a! f 107 with|true=>some ahG|false=>match a! f 281 with|true=>some YB|false=>match a! f 367 with|true=>some ap4|false=>match a! f 425 with|true=>some aAA|false=>e f) aKs lf f366)|false=>none
def aHs(e:FuncId->Option Fun)(a:∀f F,e f=some F->fu f F):∀f F,aAf e f=some F->fu f F:=aP (bF aO (aP aAi a) func280 kR) (aP (bF aO (aP apX (aP ahz (aP aAi (aP aMu a)))) func366 kR) (aW))
def aA0:Fun:=atw (levels (λ_=>none) aAf 40) 280
def aMY:fu 280 aA0:=auJ (aeU aW aHs 40) 280
def aK1:bQ:=λid=>match a! id 10 with|true=>some ([0,0,2,6,14,30,62,126,254,510,1022,2046,254,4350,16382,32766,255,131071],[(1,.pure),(2,.pure),(3,.pure),(4,.heavy),(0,.pure),(5,.pure),(6,.pure),(7,.pure),(8,.pure),(9,.pure),(10,.pure),(11,.read 0),(12,.pure),(13,.pure),(14,.pure),(15,.pure),(16,.pure),(17,.pure)])|false=>none
def aBa:Fun:=xD (λf=>match a! f 280 with|true=>some aA0|false=>match a! f 281 with|true=>some YB|false=>none) aK1 lf f172
def aM9:fu 172 aBa:=bF aO (aP aMY (aP ahz aW)) func172 kR
def aKn:bQ:=λid=>none
def ahB:Fun:=xD (λf=>match a! f 184 with|true=>some YD|false=>match a! f 184 with|true=>some YD|false=>none) aKn lf f376
def apT:fu 376 ahB:=bF aO (aP ahA (aP ahA aW)) func376 kR
def aKE:bQ:=λid=>match a! id 3 with|true=>some ([0,0,3,0,0,0,32,112,248,7,1023,2047],[(0,.pure),(1,.pure),(2,.pure),(3,.pure),(4,.pure),(5,.pure),(6,.pure),(7,.pure),(8,.pure),(9,.pure),(10,.pure),(11,.pure)])|false=>none
def ap7:Fun:=xD (λf=>match a! f 376 with|true=>some ahB|false=>match a! f 376 with|true=>some ahB|false=>none) aKE lf f294
def aAk:fu 294 ap7:=bF aO (aP apT (aP apT aW)) func294 kR
def aKU:bQ:=λid=>none
def ahD:Fun:=xD (λf=>match a! f 294 with|true=>some ap7|false=>match a! f 294 with|true=>some ap7|false=>none) aKU lf f196
def apV:fu 196 ahD:=bF aO (aP aAk (aP aAk aW)) func196 kR
def aOB:bQ:=λid=>none
def aES:Fun:=xD (λf=>match a! f 107 with|true=>some ahG|false=>none) aOB lf f54
def aPk:fu 54 aES:=bF aO (aP apX aW) func54 kR
def aKl:bQ:=λid=>none
def aAJ:Fun:=xD (λf=>match a! f 376 with|true=>some ahB|false=>none) aKl lf f379
def aMG:fu 379 aAJ:=bF aO (aP apT aW) func379 kR
def aKd:bQ:=λid=>none
def aAB:Fun:=xD (λf=>match a! f 379 with|true=>some aAJ|false=>none) aKd lf f404
def aMx:fu 404 aAB:=bF aO (aP aMG aW) func404 kR
def aKG:bQ:=λid=>none
def aAX:Fun:=xD (λf=>none) aKG lf f291
def aMV:fu 291 aAX:=bF aO aW func291 kR
def aKV:bQ:=λid=>none
def aA8:Fun:=xD (λf=>match a! f 291 with|true=>some aAX|false=>none) aKV lf f186
def aM7:fu 186 aA8:=bF aO (aP aMV aW) func186 kR
def aKC:bQ:=λid=>none
def aAU:Fun:=xD (λf=>none) aKC lf f297
def aMS:fu 297 aAU:=bF aO aW func297 kR
def aOs:bQ:=λid=>none
def amS:Fun:=xD (λf=>none) aOs lf f95
def awd:fu 95 amS:=bF aO aW func95 kR
def aK9:bQ:=λid=>none
def aqe:Fun:=xD (λf=>match a! f 95 with|true=>some amS|false=>none) aK9 lf f106
def aAp:fu 106 aqe:=bF aO (aP awd aW) func106 kR
def aKv:bQ:=λid=>none
def ap5:Fun:=xD (λf=>match a! f 404 with|true=>some aAB|false=>match a! f 95 with|true=>some amS|false=>none) aKv lf f335
def aMM:fu 335 ap5:=bF aO (aP aMx (aP awd aW)) func335 kR
def aOA:bQ:=λid=>none
def aER:Fun:=xD (λf=>none) aOA lf f55
def aPj:fu 55 aER:=bF aO aW func55 kR
def aKt:bQ:=λid=>none
def ahC:Fun:=xD (λf=>none) aKt lf f365
def apU:fu 365 ahC:=bF aO aW func365 kR
def aKL:bQ:=λid=>none
def ap9:Fun:=xD (λf=>match a! f 365 with|true=>some ahC|false=>match a! f 365 with|true=>some ahC|false=>none) aKL lf f279
def aAm:fu 279 ap9:=bF aO (aP apU (aP apU aW)) func279 kR
def aK3:bQ:=λid=>none
def aqb:Fun:=xD (λf=>match a! f 279 with|true=>some ap9|false=>match a! f 279 with|true=>some ap9|false=>none) aK3 lf f170
def aAo:fu 170 aqb:=bF aO (aP aAm (aP aAm aW)) func170 kR
def aKu:bQ:=λid=>none
def aAO:Fun:=xD (λf=>match a! f 365 with|true=>some ahC|false=>none) aKu lf f352
def aML:fu 352 aAO:=bF aO (aP apU aW) func352 kR
def aKN:bQ:=λid=>none
def aA2:Fun:=xD (λf=>match a! f 352 with|true=>some aAO|false=>none) aKN lf f251
def aM0:fu 251 aA2:=bF aO (aP aML aW) func251 kR
def aK2:bQ:=λid=>none
def aBb:Fun:=xD (λf=>match a! f 186 with|true=>some aA8|false=>match a! f 251 with|true=>some aA2|false=>none) aK2 lf f171
def aNa:fu 171 aBb:=bF aO (aP aM7 (aP aM0 aW)) func171 kR
def aKI:bQ:=λid=>match a! id 1 with|true=>some ([0,0,0,7,0,15,63],[(0,.read 0),(1,.read 0),(2,.read 0),(3,.pure),(4,.read 0),(5,.pure),(6,.pure)])|false=>match a! id 4 with|true=>some ([0,0,3,7,0,0,48,112,15,511],[(0,.pure),(1,.pure),(2,.pure),(3,.heavy),(4,.read 1),(5,.pure),(6,.pure),(7,.pure),(8,.pure),(9,.pure)])|false=>none
def apZ:amZ:=aCA prog aI (λ_=>true) (λf=>match a! f 107 with|true=>some ahG|false=>match a! f 170 with|true=>some aqb|false=>none) aKI lf f287
def aAg:IG prog aI 287 apZ:=aGC aO (aP apX (aP aAo aW)) func287 kR
def aKD:bQ:=λid=>none
def aAV:Fun:=xD (λf=>none) aKD lf f295
def aMT:fu 295 aAV:=bF aO aW func295 kR
def aKk:bQ:=λid=>none
def aAI:Fun:=xD (λf=>none) aKk lf f382
def aMF:fu 382 aAI:=bF aO aW func382 kR
def aKB:bQ:=λid=>match a! id 10 with|true=>some ([0,1,0,0,0,0,48,124,255],[(0,.pure),(1,.heavy),(2,.pure),(3,.pure),(4,.pure),(5,.pure),(6,.pure),(7,.pure),(8,.pure)])|false=>none
def ap6:Fun:=xD (λf=>match a! f 295 with|true=>some aAV|false=>match a! f 382 with|true=>some aAI|false=>none) aKB lf f299
def aAj:fu 299 ap6:=bF aO (aP aMT (aP aMF aW)) func299 kR
def aKF:bQ:=λid=>none
def aAW:Fun:=xD (λf=>match a! f 299 with|true=>some ap6|false=>none) aKF lf f292
def aMU:fu 292 aAW:=bF aO (aP aAj aW) func292 kR
def aKT:bQ:=λid=>match a! id 11 with|true=>some ([0,0,2,7,15],[(1,.pure),(2,.heavy),(0,.read 1),(3,.heavy),(4,.heavy)])|false=>none
def aA7:Fun:=xD (λf=>match a! f 205 with|true=>some aA5|false=>match a! f 292 with|true=>some aAW|false=>match a! f 297 with|true=>some aAU|false=>match a! f 299 with|true=>some ap6|false=>match a! f 99 with|true=>some amQ|false=>none) aKT lf f200
def aM6:fu 200 aA7:=bF aO (aP aM4 (aP aMU (aP aMS (aP aAj (aP av9 aW))))) func200 kR
def aK7:bQ:=λid=>none
def aqd:Fun:=xD (λf=>match a! f 196 with|true=>some ahD|false=>match a! f 200 with|true=>some aA7|false=>none) aK7 lf f120
def aNg:fu 120 aqd:=bF aO (aP apV (aP aM6 aW)) func120 kR
def aAH:Fun:=aeQ 5
def aME:fu 384 aAH:=ari (ps:=f384.params) func384 kR kR kR underlying43 kR
def aKA:bQ:=λid=>match a! id 0 with|true=>some ([0,1,3,7,15,31,0,127,255,0,512,1536,3584,7680,16383,32767],[(0,.pure),(1,.pure),(2,.pure),(3,.read 0),(4,.heavy),(5,.pure),(6,.pure),(7,.pure),(8,.heavy),(9,.pure),(10,.pure),(11,.pure),(12,.read 2),(13,.pure),(14,.pure),(15,.pure)])|false=>none
def aAT:Fun:=xD (λf=>match a! f 384 with|true=>some aAH|false=>none) aKA lf f303
def aMR:fu 303 aAT:=bF aO (aP aME aW) func303 kR
def aKS:bQ:=λid=>match a! id 3 with|true=>some ([0,1,3,7,15,0,32,96,224,480,1023,0,4095],[(0,.pure),(1,.pure),(2,.pure),(3,.read 0),(4,.heavy),(5,.pure),(6,.pure),(7,.pure),(8,.read 1),(9,.pure),(10,.pure),(11,.pure),(12,.pure)])|false=>none
def aA6:Fun:=xD (λf=>match a! f 173 with|true=>some ahE|false=>match a! f 303 with|true=>some aAT|false=>none) aKS lf f204
def aM5:fu 204 aA6:=bF aO (aP apW (aP aMR aW)) func204 kR
def aK5:bQ:=λid=>none
def aBf:Fun:=xD (λf=>match a! f 204 with|true=>some aA6|false=>match a! f 96 with|true=>some amR|false=>match a! f 99 with|true=>some amQ|false=>none) aK5 lf f128
def aNe:fu 128 aBf:=bF aO (aP aM5 (aP awc (aP av9 aW))) func128 kR
def aOp:bQ:=λid=>match a! id 0 with|true=>some ([0,1,3,0,8,31],[(3,.pure),(4,.heavy),(0,.pure),(1,.pure),(2,.pure),(5,.heavy)])|false=>none
def aEI:Fun:=xD (λf=>match a! f 128 with|true=>some aBf|false=>match a! f 96 with|true=>some amR|false=>none) aOp lf f98
def aPa:fu 98 aEI:=bF aO (aP aNe (aP awc aW)) func98 kR
def aKg:bQ:=λid=>none
def aAD:Fun:=xD (λf=>none) aKg lf f394
def aMA:fu 394 aAD:=bF aO aW func394 kR
def aAz:Fun:=cntF
def aMt:fu 442 aAz:=aJN func442 kR kR kR kR
def aKm:bQ:=λid=>none
def aAK:Fun:=xD (λf=>match a! f 442 with|true=>some aAz|false=>none) aKm lf f378
def aMH:fu 378 aAK:=bF aO (aP aMt aW) func378 kR
def aKi:bQ:=λid=>none
def aAF:Fun:=xD (λf=>match a! f 378 with|true=>some aAK|false=>none) aKi lf f392
def aMC:fu 392 aAF:=bF aO (aP aMH aW) func392 kR
def aKy:bQ:=λid=>none
def aAR:Fun:=xD (λf=>match a! f 392 with|true=>some aAF|false=>none) aKy lf f325
def aMP:fu 325 aAR:=bF aO (aP aMC aW) func325 kR
def aKa:bQ:=λid=>none
def aAy:Fun:=xD (λf=>none) aKa lf f447
def aMs:fu 447 aAy:=bF aO aW func447 kR
def aKj:bQ:=λid=>none
def aAG:Fun:=xD (λf=>match a! f 447 with|true=>some aAy|false=>none) aKj lf f388
def aMD:fu 388 aAG:=bF aO (aP aMs aW) func388 kR
def aKz:bQ:=λid=>none
def aAS:Fun:=xD (λf=>match a! f 388 with|true=>some aAG|false=>none) aKz lf f309
def aMQ:fu 309 aAS:=bF aO (aP aMD aW) func309 kR
def aKQ:bQ:=λid=>none
def aA4:Fun:=xD (λf=>match a! f 309 with|true=>some aAS|false=>none) aKQ lf f209
def aM3:fu 209 aA4:=bF aO (aP aMQ aW) func209 kR
def aK6:bQ:=λid=>none
def aqc:Fun:=xD (λf=>match a! f 209 with|true=>some aA4|false=>none) aK6 lf f126
def aNf:fu 126 aqc:=bF aO (aP aM3 aW) func126 kR
def aKO:bQ:=λid=>none
def aA3:Fun:=xD (λf=>none) aKO lf f233
def aM1:fu 233 aA3:=bF aO aW func233 kR
def aKh:bQ:=λid=>none
def aAE:Fun:=xD (λf=>match a! f 233 with|true=>some aA3|false=>none) aKh lf f393
def aMB:fu 393 aAE:=bF aO (aP aM1 aW) func393 kR
def aKx:bQ:=λid=>none
def aAQ:Fun:=xD (λf=>match a! f 196 with|true=>some ahD|false=>match a! f 393 with|true=>some aAE|false=>none) aKx lf f326
def aMO:fu 326 aAQ:=bF aO (aP apV (aP aMB aW)) func326 kR
def aOu:bQ:=λid=>none
def aEL:Fun:=xD (λf=>none) aOu lf f93
def aPd:fu 93 aEL:=bF aO aW func93 kR
def aOq:bQ:=λid=>match a! id 18 with|true=>some ([0,1,3,7,15,3,35,99,255,511],[(0,.pure),(1,.pure),(5,.pure),(6,.read 0),(7,.heavy),(2,.pure),(3,.pure),(4,.read 1),(8,.pure),(9,.pure)])|false=>match a! id 20 with|true=>some ([0,0,2,0,8,24,0,64,192,504,0,1024,3072,8184,16376,32760,65528,131071],[(3,.pure),(4,.read 0),(5,.heavy),(6,.pure),(7,.pure),(8,.read 1),(9,.heavy),(10,.pure),(11,.pure),(12,.read 2),(13,.heavy),(0,.pure),(1,.pure),(2,.pure),(14,.pure),(15,.pure),(16,.alloc),(17,.heavy)])|false=>match a! id 22 with|true=>some ([0,1,3,7,0,16,48,112,240,15,1023],[(0,.pure),(1,.pure),(2,.pure),(3,.read 0),(4,.pure),(5,.pure),(6,.pure),(7,.read 0),(8,.pure),(9,.pure),(10,.pure)])|false=>none
def aEJ:Fun:=xD (λf=>none) aOq lf f97
def aPb:fu 97 aEJ:=bF aO aW func97 kR
def aJ2:bQ:=λid=>match a! id 4 with|true=>some ([0,0,3,7,15,15,15,111,239,15,15,1039,3599,7695,16383,32767,65535],[(0,.pure),(1,.pure),(2,.pure),(3,.pure),(4,.pure),(5,.pure),(6,.pure),(7,.pure),(8,.read 0),(9,.pure),(10,.pure),(11,.pure),(12,.pure),(13,.read 0),(14,.heavy),(15,.pure),(16,.pure)])|false=>match a! id 6 with|true=>some ([0,0,0,0,8,0,0,64,224,480,0,0,3072,7168,16355,32739,65535,131071],[(0,.pure),(1,.pure),(5,.pure),(6,.pure),(7,.pure),(8,.pure),(9,.read 0),(10,.pure),(11,.pure),(12,.pure),(13,.read 0),(14,.pure),(15,.heavy),(2,.pure),(3,.pure),(4,.pure),(16,.pure),(17,.heavy)])|false=>none
def aAq:Fun:=xD (λf=>none) aJ2 lf f502
def aMk:fu 502 aAq:=bF aO aW func502 kR
def aJ9:bQ:=λid=>match a! id 17 with|true=>some ([0,1,3,7,7,7,39,119,247,7,7,1543,3591,8191,16383,32767,65535],[(0,.pure),(1,.pure),(2,.pure),(3,.pure),(4,.pure),(5,.pure),(6,.pure),(7,.pure),(8,.read 0),(9,.pure),(10,.pure),(11,.pure),(12,.read 0),(13,.heavy),(14,.pure),(15,.pure),(16,.pure)])|false=>none
def aAx:Fun:=xD (λf=>match a! f 502 with|true=>some aAq|false=>none) aJ9 lf f460
def aMr:fu 460 aAx:=bF aO (aP aMk aW) func460 kR
def aKf:bQ:=λid=>none
def aAC:Fun:=xD (λf=>match a! f 165 with|true=>some aBe|false=>match a! f 460 with|true=>some aAx|false=>none) aKf lf f395
def aMz:fu 395 aAC:=bF aO (aP aNc (aP aMr aW)) func395 kR
def aKw:bQ:=λid=>match a! id 8 with|true=>some ([0,1,3,7,15,31,7,7,135,455,967,1991,4095,8191],[(0,.pure),(1,.pure),(2,.pure),(3,.pure),(4,.read 0),(5,.pure),(6,.pure),(7,.pure),(8,.pure),(9,.pure),(10,.pure),(11,.read 0),(12,.pure),(13,.pure)])|false=>match a! id 9 with|true=>some ([0,0,2,0,0,16,56,120,248,0,512,2040,4095,8191,16383],[(0,.pure),(1,.pure),(2,.pure),(3,.pure),(4,.pure),(5,.pure),(6,.pure),(7,.pure),(8,.read 0),(9,.pure),(10,.read 0),(11,.pure),(12,.pure),(13,.pure),(14,.heavy)])|false=>none
def aAP:Fun:=xD (λf=>match a! f 394 with|true=>some aAD|false=>match a! f 395 with|true=>some aAC|false=>none) aKw lf f327
def aMN:fu 327 aAP:=bF aO (aP aMA (aP aMz aW)) func327 kR
def aKP:bQ:=λid=>none
def YC:Fun:=xD (λf=>match a! f 325 with|true=>some aAR|false=>match a! f 326 with|true=>some aAQ|false=>match a! f 327 with|true=>some aAP|false=>none) aKP lf f224
def aM2:fu 224 YC:=bF aO (aP aMP (aP aMO (aP aMN aW))) func224 kR
def aBg:Fun:=OD
def aNh:fu 108 aBg:=ae9 func108 kR kR kR kR
def aOz:bQ:=λid=>none
def aEQ:Fun:=xD (λf=>match a! f 108 with|true=>some aBg|false=>none) aOz lf f56
def aPi:fu 56 aEQ:=bF aO (aP aNh aW) func56 kR
def aOJ:bQ:=λid=>none
def aEY:Fun:=xD (λf=>match a! f 54 with|true=>some aES|false=>match a! f 55 with|true=>some aER|false=>match a! f 56 with|true=>some aEQ|false=>none) aOJ lf f26
def aPq:fu 26 aEY:=bF aO (aP aPk (aP aPj (aP aPi aW))) func26 kR
def aBd:Fun:=Yy U
def aNb:fu 166 aBd:=amN func166 kR kR kR U kR
def aOx:bQ:=λid=>none
def aEO:Fun:=xD (λf=>match a! f 166 with|true=>some aBd|false=>none) aOx lf f84
def aPg:fu 84 aEO:=bF aO (aP aNb aW) func84 kR
def aOI:bQ:=λid=>none
def aEX:Fun:=xD (λf=>none) aOI lf f27
def aPp:fu 27 aEX:=bF aO aW func27 kR
def aOH:bQ:=λid=>none
def aEW:Fun:=xD (λf=>none) aOH lf f28
def aPo:fu 28 aEW:=bF aO aW func28 kR
def aOG:bQ:=λid=>none
def aEV:Fun:=xD (λf=>none) aOG lf f29
def aPn:fu 29 aEV:=bF aO aW func29 kR
def aOF:bQ:=λid=>none
def aEU:Fun:=xD (λf=>none) aOF lf f30
def aPm:fu 30 aEU:=bF aO aW func30 kR
def aOv:bQ:=λid=>none
def aEM:Fun:=xD (λf=>none) aOv lf f92
def aPe:fu 92 aEM:=bF aO aW func92 kR
def aOw:bQ:=λid=>match a! id 5 with|true=>some ([0,1,3,7,0,16,63,0,128,384,896,2047,4095,8191,8191,16383,65535],[(0,.pure),(1,.pure),(2,.pure),(3,.read 0),(4,.pure),(5,.alloc),(6,.heavy),(7,.pure),(8,.pure),(9,.pure),(10,.read 1),(11,.heavy),(12,.pure),(13,.pure),(14,.pure),(15,.pure),(16,.pure)])|false=>match a! id 10 with|true=>some ([0,0,2,6,14,0,32,96,224,510,1023],[(0,.pure),(1,.pure),(2,.pure),(3,.pure),(4,.read 0),(5,.pure),(6,.pure),(7,.pure),(8,.read 0),(9,.pure),(10,.pure)])|false=>none
def aEN:Fun:=xD (λf=>match a! f 170 with|true=>some aqb|false=>match a! f 171 with|true=>some aBb|false=>match a! f 172 with|true=>some aBa|false=>match a! f 92 with|true=>some aEM|false=>none) aOw lf f91
def aPf:fu 91 aEN:=bF aO (aP aAo (aP aNa (aP aM9 (aP aPe aW)))) func91 kR
def aOD:bQ:=λid=>match a! id 10 with|true=>some ([0,1,3,7,0,16,48,112,240,511,1023],[(0,.pure),(1,.pure),(2,.pure),(3,.read 0),(4,.pure),(5,.pure),(6,.pure),(7,.read 0),(8,.pure),(9,.pure),(10,.pure)])|false=>none
def amT:Fun:=xD (λf=>match a! f 91 with|true=>some aEN|false=>none) aOD lf f41
def awe:fu 41 amT:=bF aO (aP aPf aW) func41 kR
def aOy:bQ:=λid=>none
def aEP:Fun:=xD (λf=>none) aOy lf f58
def aPh:fu 58 aEP:=bF aO aW func58 kR
def aOt:bQ:=λid=>none
def aEK:Fun:=xD (λf=>match a! f 58 with|true=>some aEP|false=>none) aOt lf f94
def aPc:fu 94 aEK:=bF aO (aP aPh aW) func94 kR
def aOC:bQ:=λid=>match a! id 16 with|true=>some ([0,1,3,0,8,24,56,0,0,256,768,2040,4095],[(3,.pure),(4,.pure),(5,.pure),(6,.read 0),(7,.pure),(8,.pure),(9,.read 0),(10,.pure),(11,.heavy),(0,.pure),(1,.pure),(2,.pure),(12,.heavy)])|false=>match a! id 20 with|true=>some ([0,1,3,7,0,16,48,15,255],[(0,.pure),(1,.pure),(2,.pure),(3,.heavy),(4,.pure),(5,.read 1),(6,.pure),(7,.pure),(8,.pure)])|false=>none
def aET:Fun:=xD (λf=>match a! f 84 with|true=>some aEO|false=>match a! f 93 with|true=>some aEL|false=>match a! f 94 with|true=>some aEK|false=>match a! f 95 with|true=>some amS|false=>match a! f 96 with|true=>some amR|false=>match a! f 97 with|true=>some aEJ|false=>match a! f 98 with|true=>some aEI|false=>match a! f 99 with|true=>some amQ|false=>none) aOC lf f42
def aPl:fu 42 aET:=bF aO (aP aPg (aP aPd (aP aPc (aP awd (aP awc (aP aPb (aP aPa (aP av9 aW)))))))) func42 kR
def aOL:bQ:=λid=>none
def aEZ:Fun:=xD (λf=>match a! f 40 with|true=>some awf|false=>match a! f 41 with|true=>some amT|false=>match a! f 42 with|true=>some aET|false=>none) aOL lf f13
def aPs:fu 13 aEZ:=bF aO (aP aEF (aP awe (aP aPl aW))) func13 kR
def aP2:bQ:=λid=>none
def aC8:Fun:=xD (λf=>match a! f 13 with|true=>some aEZ|false=>match a! f 26 with|true=>some aEY|false=>match a! f 27 with|true=>some aEX|false=>match a! f 28 with|true=>some aEW|false=>match a! f 29 with|true=>some aEV|false=>match a! f 30 with|true=>some aEU|false=>none) aP2 lf f9
def aP4:fu 9 aC8:=bF aO (aP aPs (aP aPq (aP aPp (aP aPo (aP aPn (aP aPm aW)))))) func9 kR
def aKq:bQ:=λid=>none
def aAN:Fun:=xD (λf=>none) aKq lf f371
def aMK:fu 371 aAN:=bF aO aW func371 kR
def aKb:bQ:=λid=>none
def ap0:Fun:=xD (λf=>none) aKb lf f435
def aAh:fu 435 ap0:=bF aO aW func435 kR
def aKp:bQ:=λid=>none
def aAM:Fun:=xD (λf=>match a! f 435 with|true=>some ap0|false=>none) aKp lf f372
def aMJ:fu 372 aAM:=bF aO (aP aAh aW) func372 kR
def aKo:bQ:=λid=>none
def aAL:Fun:=xD (λf=>match a! f 435 with|true=>some ap0|false=>none) aKo lf f373
def aMI:fu 373 aAL:=bF aO (aP aAh aW) func373 kR
def aKH:bQ:=λid=>match a! id 4 with|true=>some ([0,0,2,7,0,16,63,127],[(0,.pure),(1,.pure),(2,.pure),(3,.heavy),(4,.pure),(5,.pure),(6,.heavy),(7,.pure)])|false=>none
def aAY:Fun:=xD (λf=>match a! f 371 with|true=>some aAN|false=>match a! f 372 with|true=>some aAM|false=>match a! f 373 with|true=>some aAL|false=>none) aKH lf f288
def aMW:fu 288 aAY:=bF aO (aP aMK (aP aMJ (aP aMI aW))) func288 kR
def aKX:bQ:=λid=>none
def aA9:Fun:=xD (λf=>match a! f 196 with|true=>some ahD|false=>match a! f 288 with|true=>some aAY|false=>none) aKX lf f183
def aM8:fu 183 aA9:=bF aO (aP apV (aP aMW aW)) func183 kR
def aLa:bQ:=λid=>match a! id 22 with|true=>some ([0,0,1,7],[(0,.pure),(1,.read 0),(2,.pure),(3,.heavy)])|false=>none
def aLc:Oe:=λf=>match a! f 287 with|true=>some apZ|false=>match a! f 287 with|true=>some apZ|false=>none
def TG:Fun:=aGK prog aI (λ_=>true) (λf=>match a! f 182 with|true=>some aqa|false=>match a! f 182 with|true=>some aqa|false=>match a! f 183 with|true=>some aA9|false=>none) aLc aLa lf f105
def apY:fu 105 TG:=aJp aO (aP aAn (aP aAn (aP aM8 aW))) (aeX aAg (aeX aAg aEc)) func105 kR
def aLb:bQ:=λid=>none
def aqf:Fun:=xD (λf=>match a! f 105 with|true=>some TG|false=>match a! f 106 with|true=>some aqe|false=>match a! f 105 with|true=>some TG|false=>match a! f 106 with|true=>some aqe|false=>none) aLb lf f104
def aNi:fu 104 aqf:=bF aO (aP apY (aP aAp (aP apY (aP aAp aW)))) func104 kR
def aJ8:bQ:=λid=>none
def aAw:Fun:=xD (λf=>none) aJ8 lf f463
def aMq:fu 463 aAw:=bF aO aW func463 kR
def aJ7:bQ:=λid=>none
def aAv:Fun:=xD (λf=>none) aJ7 lf f470
def aMp:fu 470 aAv:=bF aO aW func470 kR
def aJ6:bQ:=λid=>none
def aAu:Fun:=xD (λf=>none) aJ6 lf f471
def aMo:fu 471 aAu:=bF aO aW func471 kR
def aJ5:bQ:=λid=>none
def aAt:Fun:=xD (λf=>none) aJ5 lf f472
def aMn:fu 472 aAt:=bF aO aW func472 kR
def aJ4:bQ:=λid=>none
def aAs:Fun:=xD (λf=>none) aJ4 lf f473
def aMm:fu 473 aAs:=bF aO aW func473 kR
def aJ3:bQ:=λid=>none
def aAr:Fun:=xD (λf=>none) aJ3 lf f474
def aMl:fu 474 aAr:=bF aO aW func474 kR
def aLp:FuncId->Option Fun:=λf=>match a! f 463 with|true=>some aAw|false=>match a! f 470 with|true=>some aAv|false=>match a! f 471 with|true=>some aAu|false=>match a! f 472 with|true=>some aAt|false=>match a! f 473 with|true=>some aAs|false=>match a! f 474 with|true=>some aAr|false=>none
def aKe:bQ:=λid=>none
def ap3:Fun:=aGL prog aI (λt=>!(a! t 35||a! t 36)) aLp aKe lf 5 12 432 23 24 30 f401
def aMy:fu 401 ap3:=aJq (d:=35) (s:=36) aO (aP aMq (aP aMp (aP aMo (aP aMn (aP aMm (aP aMl aW)))))) func401 kR
def aCN:((g! 100).all λn=>DJ aI aI [] [] (H (eX n)) (aqc [Y U (n:Int)] (mkO aI [])))=true:=kR
def awj:Fun:=zL apR aqc
def aHx:fu 126 awj:=Bg aNf λargs r e=>by
 obtain⟨n,hn,rfl,rfl⟩:=aAd e;exact⟨rfl,d!.1 aCN n (e!.2 hn)⟩
def aEp:((g! 100).all λn=>DJ aI aI [] [] (H (eX n)) (awi [Y U (n:Int)] (mkO aI [])))=true:=kR
def ahF:Fun:=zL apR awi
def aNd:fu 14 ahF:=Bg aPr λargs r e=>by
 obtain⟨n,hn,rfl,rfl⟩:=aAd e;exact⟨rfl,d!.1 aEp n (e!.2 hn)⟩
def aII:DJ aI aI [] [] (.tuple (.cons (H [73,78,66,79,88]) (.cons (Y U 0) .nil))) (aqd [H [73,78,66,79,88]] (mkO aI []))=true:=kR
def awk:Fun:=zL (av4 [73,78,66,79,88] (.tuple (.cons (H [73,78,66,79,88]) (.cons (Y U 0) .nil)))) aqd
def aHy:fu 120 awk:=Bg aNg λargs r e=>by
 obtain⟨rfl,rfl⟩:=aJT e;exact⟨rfl,aII⟩
def aIL:DJ aI aI [] [] (H []) (aqf [H [],H [105,110,45,114,101,112,108,121,45,116,111]] (mkO aI []))=true:=kR
def UE:Fun:=zL (aC7 [] [105,110,45,114,101,112,108,121,45,116,111] (H [])) aqf
def aHA:fu 104 UE:=Bg aNi λargs r e=>by
 obtain⟨rfl,rfl⟩:=aHj e;exact⟨rfl,aIL⟩
def aHl(r:V)(args:List V):Option V:=match args with
 | []=>some r
 |_=>none
def aJV{q:V}{args:List V}{r:V}(e:aHl q args=some r):args= []/\r=q:=by
 unfold aHl at e;split at e
 ·cases e;exact⟨rfl,rfl⟩
 ·cases e
def aPL:DJ aI aI [] [] (K true) (aC8 [] (mkO aI []))=true:=kR
def aEH:Fun:=zL (aHl (K true)) aC8
def aO9:fu 9 aEH:=Bg aP4 λargs r e=>by
 obtain⟨rfl,rfl⟩:=aJV e;exact⟨rfl,aPL⟩
def rdV(G:Nat)(a b:Int):V×List Ob:=(.tuple (.cons (.slice (c! G) 0 1 (.kn 1)) (.cons (Y U 0) .nil)),[O (N 98 false) [Y U a,Y U b]])
def SL(args:List V):Option (V×List Ob):=match args with
 |H s:: Y U n:: []=>if 1<=n/\n<=20 then(if s= [49] then some (rdV aI 1 1) else if s= [49,58,42] then some (rdV aI 1 n) else if n<=9/\s= [48+n.toNat] then some (rdV aI n n) else none) else none
 |_=>none
def ag9:List Pos:= [c! 13]
def aIH:((g! 20).all λn=>akj aI YC ag9 [H [49],Y U ((n:Int)+1)] (rdV aI 1 1))=true:=kR
def aIG:((g! 20).all λn=>akj aI YC ag9 [H [49,58,42],Y U ((n:Int)+1)] (rdV aI 1 ((n:Int)+1)))=true:=kR
def aIF:((g! 9).all λn=>akj aI YC ag9 [H [48+(n+1)],Y U ((n:Int)+1)] (rdV aI ((n:Int)+1) ((n:Int)+1)))=true:=kR
def aHk{args:List V}{r:V×List Ob}(e:SL args=some r):∃n:Nat,n<20/\((n<9/\args= [H [48+(n+1)],Y U ((n:Int)+1)]/\r=rdV aI ((n:Int)+1) ((n:Int)+1))\/(args= [H [49],Y U ((n:Int)+1)]/\r=rdV aI 1 1)\/(args= [H [49,58,42],Y U ((n:Int)+1)]/\r=rdV aI 1 ((n:Int)+1))):=by
 unfold SL at e;split at e
 ·rename_i s n;split at e
  ·rename_i hn;have b:(((n - 1).toNat:Int)+1)=n:=by omega
   refine⟨(n - 1).toNat,by omega,?_⟩;rw[b];split at e
   ·rename_i a;cases e;exact Or.inr (Or.inl ⟨by rw[a],rfl⟩)
   ·split at e
    ·rename_i a;cases e;exact Or.inr (Or.inr ⟨by rw[a],rfl⟩)
    ·split at e
     ·rename_i a;cases e;refine Or.inl ⟨by omega,?_,rfl⟩;rw[a.2,show n.toNat=(n - 1).toNat+1 by omega]
     ·cases e
  ·cases e
 ·cases e
def awg:Fun:=aem aI SL YC
def aHv:fu 224 awg:=ag0 (l:=ag9) aM2 λargs r e=>by
 obtain⟨n,hn,h|h|h⟩:=aHk e
 ·obtain⟨a,rfl,rfl⟩:=h;exact d!.1 aIF n (e!.2 a)
 ·obtain⟨rfl,rfl⟩:=h;exact d!.1 aIH n (e!.2 hn)
 ·obtain⟨rfl,rfl⟩:=h;exact d!.1 aIG n (e!.2 hn)
def vI(n:Nat):List Nat:= [49,48+n / 10,48+n % 10]
def aaG(args:List V):Option V:=match args with
 |Y U n:: []=>if 100<=n/\n<120 then some (H (vI (n - 100).toNat)) else none
 |_=>none
def aHm{n:Nat}(h:n<20):aaG [Y U (100+(n:Int))]=some (H (vI n)):=by
 unfold aaG;simp only[];rw[if_pos (by omega),show(100+(n:Int) - 100).toNat=n by omega]
def aNE:((g! 20).all λn=>DJ aI aI [] [] (H (vI n)) (ahF [Y U (100+(n:Int))] (mkO aI [])))=true:=kR
def awh:Fun:=zL aaG ahF
def aHw:fu 14 awh:=Bg aNd λargs r e=>by
 unfold aaG at e;split at e
 ·rename_i n;split at e
  ·rename_i hn;cases e;have h:=d!.1 aNE (n - 100).toNat (e!.2 (by omega));rw[show 100+((n - 100).toNat:Int)=n by omega]at h;exact⟨rfl,h⟩
  ·cases e
 ·cases e
def jI:List Nat:= [103,111,110,101]
def nN(n:Nat):List Nat:= [83,117,98,106,101,99,116,58,32,115]++vI n++ [13,10,13,10,120]
def DI(n:Nat):List Nat:=115::vI n
def upS(n:Nat):List Nat:=83::vI n
def CY(f:Nat->List Nat)(t:List Nat):Option Nat:=(g! 20).find? λn=>decide (f n=t)
def aal{f:Nat->List Nat}{t:List Nat}{n:Nat}(e:CY f t=some n):n<20/\f n=t:=by
 unfold CY at e;have h:=List.find?_some e;exact⟨e!.1 (List.mem_of_find?_eq_some e),by simpa using h⟩
def akB{f:Nat->List Nat}(a:((g! 20).all λn=>match CY f (f n) with|some k=>a! k n|none=>false)=true){n:Nat}(hn:n<20):CY f (f n)=some n:=by
 have h:=d!.1 a n (e!.2 hn);split at h
 ·rename_i k hk;rw[hk,h! h]
 ·cases h
def azE{n:Nat}(hn:n<20):CY nN (nN n)=some n:=akB kR hn
def aI7{n:Nat}(hn:n<20):CY DI (DI n)=some n:=akB kR hn
def aI6{n:Nat}(hn:n<20):CY upS (upS n)=some n:=akB kR hn
def aC6(args:List V):Option V:=match args with
 |H t:: H s:: []=>if s= [105,110,45,114,101,112,108,121,45,116,111] then(if t=jI then some (H []) else(CY nN t).map λ_=>H []) else none
 |_=>none
def aIM:DJ aI aI [] [] (H []) (UE [H jI,H [105,110,45,114,101,112,108,121,45,116,111]] (mkO aI []))=true:=kR
def aIO:((g! 10).all λn=>DJ aI aI [] [] (H []) (UE [H (nN n),H [105,110,45,114,101,112,108,121,45,116,111]] (mkO aI [])))=true:=kR
def aIN:((g! 10).all λn=>DJ aI aI [] [] (H []) (UE [H (nN (10+n)),H [105,110,45,114,101,112,108,121,45,116,111]] (mkO aI [])))=true:=kR
def aIi{p:Nat->Bool}(a:((g! 10).all p)=true)(b:((g! 10).all λn=>p (10+n))=true){n:Nat}(hn:n<20):p n=true:=by
 by_cases h:n<10
 ·exact d!.1 a n (e!.2 h)
 ·have:=d!.1 b (n - 10) (e!.2 (by omega));rwa[show 10+(n - 10)=n by omega]at this
def Ws:Fun:=zL aC6 UE
def aEG:fu 104 Ws:=Bg aHA λargs r e=>by
 unfold aC6 at e;split at e
 ·rename_i t s;split at e
  ·rename_i a;subst a;split at e
   ·rename_i ht;subst ht;cases e;exact⟨rfl,aIM⟩
   ·cases hl:CY nN t with
    |none=>rw[hl]at e;cases e
    |some n=>
     rw[hl]at e;cases e;obtain⟨hn,rfl⟩:=aal hl;exact⟨rfl,aIi aIO aIN hn⟩
  ·cases e
 ·cases e
def aNu{n:Nat}(hn:n<20)(h:Hp):Ws [H (nN n),H [105,110,45,114,101,112,108,121,45,116,111]] h=D (H []) h:=Bh (by
 unfold aC6;simp only[if_true];split
 ·rfl
 ·rw[azE hn];rfl) h
def aF0(h:Hp):Ws [H jI,H [105,110,45,114,101,112,108,121,45,116,111]] h=D (H []) h:=Bh (by unfold aC6;simp only[if_true]) h
def aIn(args:List V):Option V:=match args with
 |H s:: H t:: []=>(match CY DI s,CY upS t with|some i,some j=>some (K (a! i j))|_,_=>none)
 |_=>none
def inB(i j:Nat):Bool:=DJ aI aI [] [] (K (a! i j)) (ap5 [H (DI i),H (upS j)] (mkO aI []))
def inR(i:Nat):Bool:=(g! 20).all λj=>inB i j
def auu:(inR 0&&inR 1)=true:=kR
def aut:(inR 2&&inR 3)=true:=kR
def aus:(inR 4&&inR 5)=true:=kR
def aur:(inR 6&&inR 7)=true:=kR
def auq:(inR 8&&inR 9)=true:=kR
def aup:(inR 10&&inR 11)=true:=kR
def auo:(inR 12&&inR 13)=true:=kR
def aun:(inR 14&&inR 15)=true:=kR
def aum:(inR 16&&inR 17)=true:=kR
def aul:(inR 18&&inR 19)=true:=kR
def aIE:∀i,i<20->inR i=true
 |0,_=>(b!.1 auu).1
 |1,_=>(b!.1 auu).2
 |2,_=>(b!.1 aut).1
 |3,_=>(b!.1 aut).2
 |4,_=>(b!.1 aus).1
 |5,_=>(b!.1 aus).2
 |6,_=>(b!.1 aur).1
 |7,_=>(b!.1 aur).2
 |8,_=>(b!.1 auq).1
 |9,_=>(b!.1 auq).2
 |10,_=>(b!.1 aup).1
 |11,_=>(b!.1 aup).2
 |12,_=>(b!.1 auo).1
 |13,_=>(b!.1 auo).2
 |14,_=>(b!.1 aun).1
 |15,_=>(b!.1 aun).2
 |16,_=>(b!.1 aum).1
 |17,_=>(b!.1 aum).2
 |18,_=>(b!.1 aul).1
 |19,_=>(b!.1 aul).2
 |n+20,h=>absurd h (by omega)
def akZ:Fun:=zL aIn ap5
def aHu:fu 335 akZ:=Bg aMM λargs r e=>by
 unfold aIn at e;split at e
 ·rename_i s t;split at e
  ·rename_i i j hi hj;cases e;obtain⟨a,rfl⟩:=aal hi;obtain⟨b,rfl⟩:=aal hj;exact⟨rfl,d!.1 (aIE i a) j (e!.2 b)⟩
  ·cases e
 ·cases e
def aPW{i j:Nat}(hi:i<20)(hj:j<20)(h:Hp):akZ [H (DI i),H (upS j)] h=D (K (a! i j)) h:=Bh (by unfold aIn;simp only[];rw[aI7 hi,aI6 hj]) h
def al3(n:Nat):Ob:=O (N 263 false) [H [83,117,98,106,101,99,116],H (DI n)]
def aub(p:Pos):V:=.tuple (.cons (.slice p 0 1 (.un 2)) (.cons (Y U 17) .nil))
def av5(args:List V):Option (V×List Ob):=match args with
 |H t:: Y U a:: Y U b:: []=>if a=0/\b=18 then(CY nN t).map λn=>(aub (c! aI),[al3 n]) else none
 |_=>none
def aNA:List Pos:= [c! 20]
def aNB(n:Nat):Bool:=akj aI TG aNA [H (nN n),Y U 0,Y U 18] (aub (c! aI),[al3 n])
def aIK:((g! 10).all aNB)=true:=kR
def aIJ:((g! 10).all λn=>aNB (10+n))=true:=kR
def ak0:Fun:=aem aI av5 TG
def aHz:fu 105 ak0:=ag0 (l:=aNA) apY λargs r e=>by
 unfold av5 at e;split at e
 ·rename_i t a b;split at e
  ·rename_i c;obtain⟨rfl,rfl⟩:=c;cases hl:CY nN t with
   |none=>rw[hl]at e;cases e
   |some n=>
    rw[hl]at e;cases e;obtain⟨hn,rfl⟩:=aal hl;exact aIi aIK aIJ hn
  ·cases e
 ·cases e
def aNz{n:Nat}(hn:n<20)(h:Hp):ak0 [H (nN n),Y U 0,Y U 18] h=D (aub h.next) (h.new (al3 n)):=by
 have e:av5 [H (nN n),Y U 0,Y U 18]=some (aub (c! aI),[al3 n]):=by
  unfold av5;simp only[and_self,if_true];rw[azE hn];rfl
 show aem aI av5 TG _ h=_;unfold aem;rw[e];rfl
def aCv:List (V×V):= [(H [97,108,108],.func (.func 461) .nil .nil),(H [107,101,121,119,111,114,100],.func (.func 462) .nil .nil),(H [117,110,107,101,121,119,111,114,100],.func (.func 511) .nil (.cons (X (c! 8) 0) .nil)),(H [111,110],.func (.func 464) .nil .nil),(H [104,101,97,100,101,114],.func (.func 465) .nil .nil),(H [117,105,100],.func (.func 466) .nil .nil),(H [109,111,100,115,101,113],.func (.func 467) .nil .nil),(H [110,111,116],.func (.func 468) .nil .nil),(H [111,114],.func (.func 469) .nil .nil),(H [98,101,102,111,114,101],.func (.func 514) .nil (.cons (X (c! 9) 0) .nil)),(H [115,105,110,99,101],.func (.func 514) .nil (.cons (X (c! 10) 0) .nil)),(H [108,97,114,103,101,114],.func (.func 515) .nil (.cons (X (c! 11) 0) (.cons (X (c! 12) 0) .nil))),(H [115,109,97,108,108,101,114],.func (.func 515) .nil (.cons (X (c! 13) 0) (.cons (X (c! 14) 0) .nil))),(H [98,111,100,121],.func (.func 516) .nil (.cons (X (c! 15) 0) .nil)),(H [116,101,120,116],.func (.func 516) .nil (.cons (X (c! 16) 0) .nil)),(H [115,117,98,106,101,99,116],.func (.func 517) .nil (.cons (X (c! 17) 0) .nil)),(H [102,114,111,109],.func (.func 517) .nil (.cons (X (c! 18) 0) .nil)),(H [116,111],.func (.func 517) .nil (.cons (X (c! 19) 0) .nil)),(H [99,99],.func (.func 517) .nil (.cons (X (c! 20) 0) .nil)),(H [97,110,115,119,101,114,101,100],.func (.func 518) .nil (.cons (X (c! 21) 0) .nil)),(H [117,110,97,110,115,119,101,114,101,100],.func (.func 511) .nil (.cons (X (c! 23) 0) .nil)),(H [100,101,108,101,116,101,100],.func (.func 518) .nil (.cons (X (c! 24) 0) .nil)),(H [117,110,100,101,108,101,116,101,100],.func (.func 511) .nil (.cons (X (c! 26) 0) .nil)),(H [100,114,97,102,116],.func (.func 518) .nil (.cons (X (c! 27) 0) .nil)),(H [117,110,100,114,97,102,116],.func (.func 511) .nil (.cons (X (c! 29) 0) .nil)),(H [102,108,97,103,103,101,100],.func (.func 518) .nil (.cons (X (c! 30) 0) .nil)),(H [117,110,102,108,97,103,103,101,100],.func (.func 511) .nil (.cons (X (c! 32) 0) .nil)),(H [115,101,101,110],.func (.func 518) .nil (.cons (X (c! 33) 0) .nil)),(H [117,110,115,101,101,110],.func (.func 511) .nil (.cons (X (c! 35) 0) .nil))]
def aan:List Ob:= [.map aCv,O (N 431 true) [.func (.func 462) .nil .nil],O (N 3 true) [Y U 7],O (N 3 true) [Y U 8],O (N 3 true) [Y U 9],O (N 3 true) [Y U 1],O (N 3 true) [Y U 10],O (N 3 true) [Y U 0],O (N 3 true) [Y U 13],O (N 3 true) [Y U 11],O (N 9 true) [H [83,117,98,106,101,99,116]],O (N 9 true) [H [70,114,111,109]],O (N 9 true) [H [84,111]],O (N 9 true) [H [67,99]],O (N 9 true) [H [36,97,110,115,119,101,114,101,100]],O (N 9 true) [H [36,97,110,115,119,101,114,101,100]],O (N 431 true) [.func (.func 518) .nil (.cons (X (c! 22) 0) .nil)],O (N 9 true) [H [36,100,101,108,101,116,101,100]],O (N 9 true) [H [36,100,101,108,101,116,101,100]],O (N 431 true) [.func (.func 518) .nil (.cons (X (c! 25) 0) .nil)],O (N 9 true) [H [36,100,114,97,102,116]],O (N 9 true) [H [36,100,114,97,102,116]],O (N 431 true) [.func (.func 518) .nil (.cons (X (c! 28) 0) .nil)],O (N 9 true) [H [36,102,108,97,103,103,101,100]],O (N 9 true) [H [36,102,108,97,103,103,101,100]],O (N 431 true) [.func (.func 518) .nil (.cons (X (c! 31) 0) .nil)],O (N 9 true) [H [36,115,101,101,110]],O (N 9 true) [H [36,115,101,101,110]],O (N 431 true) [.func (.func 518) .nil (.cons (X (c! 34) 0) .nil)]]
def aIg:V:=.map (c! 7)
def aIh:List Pos:= [c! 7,c! 8,c! 9,c! 10,c! 11,c! 12,c! 13,c! 14,c! 15,c! 16,c! 17,c! 18,c! 19,c! 20,c! 22,c! 23,c! 24,c! 25,c! 26,c! 27,c! 28,c! 29,c! 30,c! 31,c! 32,c! 33,c! 34,c! 35,c! 36]
def aID:akj aI ap3 aIh [] (aIg,aan)=true:=kR
def aIp(args:List V):Option (V×List Ob):=match args with
 | []=>some (aIg,aan)
 |_=>none
def akY:Fun:=aem aI aIp ap3
def aHt:fu 401 akY:=ag0 (l:=aIh) aMy λargs r e=>by
 unfold aIp at e;split at e
 ·cases e;exact aID
 ·cases e
def aJc(h:Hp):akY [] h=D (.map h.next) (mkF h (auy (tau aI (succs h.next aan)) aan)):=(rfl)
end Go.Proofs.Ik
