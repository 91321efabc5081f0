/- Lemmas that the claim's last text uses. No conditions. -/
import Derived.Test.YtpgppmioigacoaaGreatDoorProg
import Derived.KernelRfl
import Derived.Test.YtpgppmioigacoaaGreatDoorSAF
import Derived.Test.YtpgppmioigacoaaGreatDoorSAG
import Derived.Test.YtpgppmioigacoaaGreatDoorSAH
set_option linter.all false
set_option maxHeartbeats 4000000
set_option maxRecDepth 100000
open Go.Proofs.Tryz renaming prog→a!
open Nat renaming beq→b!,eq_of_beq_eq_true→g!
open List renaming mem_range→c!,all_eq_true→d!,range→e!
open Go.Vm.V renaming int→Y,bool→K,str→H
open Go.IntKind renaming i64→U
open Go.Vm.Ob renaming cells→O
open Go.Vm.Wr renaming rw→N
open Go.Vm.R renaming ok→D
noncomputable section
open Go Go.Proofs Go.Vm
namespace Go.Vm
def dP(n:Nat):List Nat:=match Nat.blt n 10 with|true=> [48+n]|false=> [48+n / 10,48+n % 10]
def ao3(args:List V):Option V:=match args with
 |Y U n:: []=>if 0<=n/\n<100 then some (H (dP n.toNat)) else none
 |_=>none
def ao2(s:List Nat)(r:V)(args:List V):Option V:=match args with
 |H t:: []=>if t=s then some r else none
 |_=>none
def aha(s a:List Nat)(r:V)(args:List V):Option V:=match args with
 |H t:: H t':: []=>if t=s/\t'=a then some r else none
 |_=>none
theorem ayN{args:List V}{r:V}(e:ao3 args=some r):∃n:Nat,n<100/\args= [Y U (n:Int)]/\r=H (dP n):=by
 unfold ao3 at e;split at e
 ·split at e
  ·rename_i n a;cases e;exact⟨n.toNat,by omega,by rw[Int.toNat_of_nonneg a.1],rfl⟩
  ·cases e
 ·cases e
theorem ayM{s:List Nat}{q:V}{args:List V}{r:V}(e:ao2 s q args=some r):args= [H s]/\r=q:=by
 unfold ao2 at e;split at e
 ·split at e
  ·rename_i h;cases e;exact⟨by rw[h],rfl⟩
  ·cases e
 ·cases e
theorem auC{s a:List Nat}{q:V}{args:List V}{r:V}(e:aha s a q args=some r):args= [H s,H a]/\r=q:=by
 unfold aha at e;split at e
 ·split at e
  ·rename_i h;cases e;exact⟨by rw[h.1,h.2],rfl⟩
  ·cases e
 ·cases e
theorem ahb{n:Nat}(h:n<100):ao3 [Y U (n:Int)]=some (H (dP n)):=by
 unfold ao3;simp only[];rw[if_pos (by omega),Int.toNat_natCast]
theorem aIj(s:List Nat)(r:V):ao2 s r [H s]=some r:=by
 unfold ao2;exact if_pos rfl
theorem aFX(s a:List Nat)(r:V):aha s a r [H s,H a]=some r:=by
 unfold aha;exact if_pos ⟨rfl,rfl⟩
theorem zI{A:List V->Option V}{F:Fun}{args:List V}{r:V}(e:A args=some r)(h:Hp):DN A F args h=D r h:=by
 unfold DN;rw[e]
def aAe(G:Nat)(A:List V->Option (V×List Ob))(F:Fun):Fun:=λargs h=>match A args with
 |some r=>QD G [] r.2 r.1 [] h
 |none=>F args h
def asj(G:Nat)(F:Fun)(l:List Pos)(args:List V)(r:V×List Ob):Bool:=
 (arU G 0 args [] [] r.2 r.1&&(eqL args (RY (tau G []) args)&&b! (aeD (Ws G args args [])) 0))&&Gu G G (r.2.map some) l r.1 (F args (mkO G []))
theorem axK{P:Program}{G:Nat}{f:FuncId}{F:Fun}{A:List V->Option (V×List Ob)}{l:List Pos}(c:aG P G f F)(j:∀args r,A args=some r->asj G F l args r=true):aG P G f (aAe G A F):=by
 intro args h r h' M w cargs e g d;unfold aAe at e;split at e
 ·rename_i q s;have hb:=j _ _ s;unfold asj at hb;simp only[Bool.and_eq_true]at hb;obtain⟨⟨b1,b2,b⟩,i⟩:=hb;have o:Ws G args args []= []:=by
   have b:=g! b;cases hl:Ws G args args [] with
   |nil=>rfl
   |cons a l=>rw[hl]at b;cases b
  have p:(mkO G []).next.nat=G:=by rw[SH];rfl
  have k:=Does.comp c p i;have m:=aye (ks:= []) (cs:= []) (news:=q.2) (rc:=q.1) (n:=0) (a0:=args) c b1 (by simpa[patch]using k);refine m args h r h' M w cargs ?_ g d;unfold aj7;have hh:Wu G args [] args h=some []:=by
   unfold Wu;rw[o];dsimp only;rw[b2];simp only[aae,okC,b2,XM,XU,aor,Bool.and_self,if_true]
  rw[hh];exact e
 ·exact c args h r h' M w cargs e g d
end Go.Vm
namespace Go.Proofs.Ik
theorem aN:a!.follows .mixedOrders=true:=kR
def aJ:Nat:=7
def aMo:bZ:=λid=>match b! id 3 with|true=>some ([0,1,3,0,8,24,56,120,248,511,1023],[(0,.pure),(1,.pure),(2,.heavy),(3,.pure),(4,.pure),(5,.pure),(6,.pure),(7,.alloc),(8,.own 7),(9,.pure),(10,.pure)])|false=>none
def aC8(e:FuncId->Option Fun):FuncId->Option Fun:=λf=>match b! f 14 with|true=>some (dN a! aJ (λ_=>true) (λf=>e f) aMo lf Tryz.f14)|false=>none
theorem aIr(e:FuncId->Option Fun)(a:∀f F,e f=some F->aG a! aJ f F):∀f F,aC8 e f=some F->aG a! aJ f F:=aS (bP aN a Tryz.func14 kR) (aY)
def auT:Fun:=arW (levels (λ_=>none) aC8 40) 14
theorem aNi:aG a! aJ 14 auT:=as1 (aeC aY aIr 40) 14
def azI:Fun:=dN a! aJ (λ_=>true) (λf=>none) (λid=>none) lf Tryz.f106
theorem aK5:aG a! aJ 106 azI:=bP aN aY Tryz.func106 kR
def azz:Fun:=dN a! aJ (λ_=>true) (λf=>none) (λid=>none) lf Tryz.f182
theorem aKT:aG a! aJ 182 azz:=bP aN aY Tryz.func182 kR
def ayZ:amy:=aA0 a! aJ (λ_=>true) (λf=>none) (λid=>match b! id 1 with|true=>some ([0,0,0,7,0,15,63],[(0,.read 0),(1,.read 0),(2,.read 0),(3,.pure),(4,.read 0),(5,.pure),(6,.pure)])|false=>match b! id 4 with|true=>some ([0,0,3,7,0,0,48,112,15,511],[(0,.pure),(1,.pure),(2,.pure),(3,.heavy),(4,.read 1),(5,.pure),(6,.pure),(7,.pure),(8,.pure),(9,.pure)])|false=>none) lf Tryz.f287
theorem aJm:GH a! aJ 287 ayZ:=aFs aN aY Tryz.func287 kR
def azJ:Fun:=aFz a! aJ (λ_=>true) (λf=>match b! f 182 with|true=>some azz|false=>none) (λf=>match b! f 287 with|true=>some ayZ|false=>none) (λid=>match b! id 22 with|true=>some ([0,0,1,7],[(0,.pure),(1,.read 0),(2,.pure),(3,.heavy)])|false=>none) lf Tryz.f105
theorem aK6:aG a! aJ 105 azJ:=aH2 aN (aS aKT aY) (atP aJm aCG) Tryz.func105 kR
def aph:Fun:=dN a! aJ (λ_=>true) (λf=>match b! f 105 with|true=>some azJ|false=>match b! f 106 with|true=>some azI|false=>none) (λid=>none) lf Tryz.f104
theorem aK7:aG a! aJ 104 aph:=bP aN (aS aK6 (aS aK5 aY)) Tryz.func104 kR
def amj:Fun:=dN a! aJ (λ_=>true) (λf=>none) (λid=>match b! id 1 with|true=>some ([0,1,3,7,15,0,32,96,224,480,1023,2047],[(0,.pure),(1,.pure),(2,.pure),(3,.read 0),(4,.heavy),(5,.pure),(6,.pure),(7,.pure),(8,.read 1),(9,.pure),(10,.heavy),(11,.pure)])|false=>none) lf Tryz.f99
theorem auG:aG a! aJ 99 amj:=bP aN aY Tryz.func99 kR
def auO:Fun:=dN a! aJ (λ_=>true) (λf=>none) (λid=>none) lf Tryz.f40
theorem aDy:aG a! aJ 40 auO:=bP aN aY Tryz.func40 kR
def azt:Fun:=dN a! aJ (λ_=>true) (λf=>none) (λid=>none) lf Tryz.f269
theorem aKL:aG a! aJ 269 azt:=bP aN aY Tryz.func269 kR
def azE:Fun:=dN a! aJ (λ_=>true) (λf=>match b! f 269 with|true=>some azt|false=>none) (λid=>none) lf Tryz.f165
theorem aKY:aG a! aJ 165 azE:=bP aN (aS aKL aY) Tryz.func165 kR
def Yv:Fun:=dN a! aJ (λ_=>true) (λf=>none) (λid=>match b! id 1 with|true=>some ([0,1,3,7,0,16,48,112,255,511,0,1024,3072,7168,16383,32767],[(0,.pure),(1,.pure),(2,.pure),(3,.read 0),(4,.pure),(5,.pure),(6,.pure),(7,.read 0),(8,.pure),(9,.read 0),(10,.pure),(11,.pure),(12,.pure),(13,.read 0),(14,.pure),(15,.pure)])|false=>none) lf Tryz.f281
theorem ahc:aG a! aJ 281 Yv:=bP aN aY Tryz.func281 kR
def ao8:Fun:=dN a! aJ (λ_=>true) (λf=>match b! f 281 with|true=>some Yv|false=>none) (λid=>none) lf Tryz.f367
theorem ayQ:aG a! aJ 367 ao8:=bP aN (aS ahc aY) Tryz.func367 kR
def ay4:Fun:=dN a! aJ (λ_=>true) (λf=>match b! f 281 with|true=>some Yv|false=>none) (λid=>match b! id 1 with|true=>some ([0,1,3,7,15,31,63,127,15,271,783,1807,3855,8191,16383,32767],[(0,.pure),(1,.heavy),(2,.pure),(3,.pure),(4,.pure),(5,.pure),(6,.pure),(7,.read 0),(8,.pure),(9,.pure),(10,.pure),(11,.read 0),(12,.pure),(13,.pure),(14,.pure),(15,.pure)])|false=>none) lf Tryz.f425
theorem aKk:aG a! aJ 425 ay4:=bP aN (aS ahc aY) Tryz.func425 kR
def azq:Fun:=arV
theorem aKI:aG a! aJ 282 azq:=asJ Tryz.func282 kR kR kR kR
def ahf:Fun:=dN a! aJ (λ_=>true) (λf=>match b! f 282 with|true=>some azq|false=>none) (λid=>none) lf Tryz.f173
theorem ao5:aG a! aJ 173 ahf:=bP aN (aS aKI aY) Tryz.func173 kR
def azv:Fun:=dN a! aJ (λ_=>true) (λf=>match b! f 173 with|true=>some ahf|false=>none) (λid=>none) lf Tryz.f205
theorem aKP:aG a! aJ 205 azv:=bP aN (aS ao5 aY) Tryz.func205 kR
def amk:Fun:=dN a! aJ (λ_=>true) (λf=>match b! f 173 with|true=>some ahf|false=>none) (λid=>none) lf Tryz.f96
theorem auH:aG a! aJ 96 amk:=bP aN (aS ao5 aY) Tryz.func96 kR
def azp:Fun:=atU
theorem aKH:aG a! aJ 289 azp:=aoH Tryz.func289 kR kR kR kR
def apd:Fun:=dN a! aJ (λ_=>true) (λf=>match b! f 289 with|true=>some azp|false=>none) (λid=>none) lf Tryz.f184
theorem ayW:aG a! aJ 184 apd:=bP aN (aS aKH aY) Tryz.func184 kR
def apg:Fun:=dN a! aJ (λ_=>true) (λf=>match b! f 184 with|true=>some apd|false=>none) (λid=>none) lf Tryz.f107
theorem ayX:aG a! aJ 107 apg:=bP aN (aS ayW aY) Tryz.func107 kR
def aIV:bZ:=λid=>none
def aIF:bZ:=λid=>match b! id 2 with|true=>some ([0,1,3,7,0,16,48,112,255,511,1023,0,4095],[(0,.pure),(1,.pure),(2,.pure),(3,.read 0),(4,.pure),(5,.pure),(6,.pure),(7,.read 0),(8,.pure),(9,.read 0),(10,.pure),(11,.alloc),(12,.heavy)])|false=>match b! id 17 with|true=>some ([0,0,2,6,14,30,31,127],[(1,.pure),(2,.pure),(3,.pure),(4,.heavy),(0,.read 1),(6,.heavy),(5,.pure),(7,.pure)])|false=>none
def ayP(e:FuncId->Option Fun):FuncId->Option Fun:=λf=>match b! f 280 with|true=>some (dN a! aJ (λ_=>true) (λf=>match b! f 367 with|true=>some ao8|false=>e f) aIV lf Tryz.f280)|false=>match b! f 366 with|true=>some (dN a! aJ (λ_=>true) (λf=>match b! f 107 with|true=>some apg|false=>match b! f 281 with|true=>some Yv|false=>match b! f 367 with|true=>some ao8|false=>match b! f 425 with|true=>some ay4|false=>e f) aIF lf Tryz.f366)|false=>none
theorem aF6(e:FuncId->Option Fun)(a:∀f F,e f=some F->aG a! aJ f F):∀f F,ayP e f=some F->aG a! aJ f F:=aS (bP aN (aS ayQ a) Tryz.func280 kR) (aS (bP aN (aS ayX (aS ahc (aS ayQ (aS aKk a)))) Tryz.func366 kR) (aY))
def azr:Fun:=arW (levels (λ_=>none) ayP 40) 280
theorem aKJ:aG a! aJ 280 azr:=as1 (aeC aY aF6 40) 280
def azA:Fun:=dN a! aJ (λ_=>true) (λf=>match b! f 280 with|true=>some azr|false=>match b! f 281 with|true=>some Yv|false=>none) (λid=>match b! id 10 with|true=>some ([0,0,2,6,14,30,62,126,254,510,1022,2046,254,4350,16382,32766,255,131071],[(1,.pure),(2,.pure),(3,.pure),(4,.heavy),(0,.pure),(5,.pure),(6,.pure),(7,.pure),(8,.pure),(9,.pure),(10,.pure),(11,.read 0),(12,.pure),(13,.pure),(14,.pure),(15,.pure),(16,.pure),(17,.pure)])|false=>none) lf Tryz.f172
theorem aKU:aG a! aJ 172 azA:=bP aN (aS aKJ (aS ahc aY)) Tryz.func172 kR
def azd:Fun:=dN a! aJ (λ_=>true) (λf=>match b! f 184 with|true=>some apd|false=>none) (λid=>none) lf Tryz.f376
theorem aKv:aG a! aJ 376 azd:=bP aN (aS ayW aY) Tryz.func376 kR
def azm:Fun:=dN a! aJ (λ_=>true) (λf=>match b! f 376 with|true=>some azd|false=>none) (λid=>match b! id 3 with|true=>some ([0,0,3,0,0,0,32,112,248,7,1023,2047],[(0,.pure),(1,.pure),(2,.pure),(3,.pure),(4,.pure),(5,.pure),(6,.pure),(7,.pure),(8,.pure),(9,.pure),(10,.pure),(11,.pure)])|false=>none) lf Tryz.f294
theorem aKE:aG a! aJ 294 azm:=bP aN (aS aKv aY) Tryz.func294 kR
def apc:Fun:=dN a! aJ (λ_=>true) (λf=>match b! f 294 with|true=>some azm|false=>none) (λid=>none) lf Tryz.f196
theorem ayV:aG a! aJ 196 apc:=bP aN (aS aKE aY) Tryz.func196 kR
def auJ:Fun:=dN a! aJ (λ_=>true) (λf=>match b! f 107 with|true=>some apg|false=>none) (λid=>none) lf Tryz.f54
theorem aDv:aG a! aJ 54 auJ:=bP aN (aS ayX aY) Tryz.func54 kR
def azo:Fun:=dN a! aJ (λ_=>true) (λf=>none) (λid=>none) lf Tryz.f291
theorem aKG:aG a! aJ 291 azo:=bP aN aY Tryz.func291 kR
def azy:Fun:=dN a! aJ (λ_=>true) (λf=>match b! f 291 with|true=>some azo|false=>none) (λid=>none) lf Tryz.f186
theorem aKS:aG a! aJ 186 azy:=bP aN (aS aKG aY) Tryz.func186 kR
def azk:Fun:=dN a! aJ (λ_=>true) (λf=>none) (λid=>none) lf Tryz.f297
theorem aKC:aG a! aJ 297 azk:=bP aN aY Tryz.func297 kR
def aml:Fun:=dN a! aJ (λ_=>true) (λf=>none) (λid=>none) lf Tryz.f95
theorem auI:aG a! aJ 95 aml:=bP aN aY Tryz.func95 kR
def aDO:Fun:=dN a! aJ (λ_=>true) (λf=>match b! f 54 with|true=>some auJ|false=>match b! f 95 with|true=>some aml|false=>none) (λid=>none) lf Tryz.f80
theorem aM7:aG a! aJ 80 aDO:=bP aN (aS aDv (aS auI aY)) Tryz.func80 kR
def apb:Fun:=dN a! aJ (λ_=>true) (λf=>match b! f 80 with|true=>some aDO|false=>match b! f 95 with|true=>some aml|false=>none) (λid=>none) lf Tryz.f212
theorem aKN:aG a! aJ 212 apb:=bP aN (aS aM7 (aS auI aY)) Tryz.func212 kR
def aDR:Fun:=dN a! aJ (λ_=>true) (λf=>none) (λid=>none) lf Tryz.f55
theorem aNa:aG a! aJ 55 aDR:=bP aN aY Tryz.func55 kR
def ao9:Fun:=dN a! aJ (λ_=>true) (λf=>none) (λid=>none) lf Tryz.f365
theorem ayR:aG a! aJ 365 ao9:=bP aN aY Tryz.func365 kR
def azs:Fun:=dN a! aJ (λ_=>true) (λf=>match b! f 365 with|true=>some ao9|false=>none) (λid=>none) lf Tryz.f279
theorem aKK:aG a! aJ 279 azs:=bP aN (aS ayR aY) Tryz.func279 kR
def azC:Fun:=dN a! aJ (λ_=>true) (λf=>match b! f 279 with|true=>some azs|false=>none) (λid=>none) lf Tryz.f170
theorem aKW:aG a! aJ 170 azC:=bP aN (aS aKK aY) Tryz.func170 kR
def aze:Fun:=dN a! aJ (λ_=>true) (λf=>match b! f 365 with|true=>some ao9|false=>none) (λid=>none) lf Tryz.f352
theorem aKw:aG a! aJ 352 aze:=bP aN (aS ayR aY) Tryz.func352 kR
def ahd:Fun:=dN a! aJ (λ_=>true) (λf=>match b! f 352 with|true=>some aze|false=>none) (λid=>none) lf Tryz.f251
theorem ayT:aG a! aJ 251 ahd:=bP aN (aS aKw aY) Tryz.func251 kR
def azB:Fun:=dN a! aJ (λ_=>true) (λf=>match b! f 186 with|true=>some azy|false=>match b! f 251 with|true=>some ahd|false=>none) (λid=>none) lf Tryz.f171
theorem aKV:aG a! aJ 171 azB:=bP aN (aS aKS (aS ayT aY)) Tryz.func171 kR
def azl:Fun:=dN a! aJ (λ_=>true) (λf=>none) (λid=>none) lf Tryz.f295
theorem aKD:aG a! aJ 295 azl:=bP aN aY Tryz.func295 kR
def azb:Fun:=dN a! aJ (λ_=>true) (λf=>none) (λid=>none) lf Tryz.f382
theorem aKt:aG a! aJ 382 azb:=bP aN aY Tryz.func382 kR
def apa:Fun:=dN a! aJ (λ_=>true) (λf=>match b! f 295 with|true=>some azl|false=>match b! f 382 with|true=>some azb|false=>none) (λid=>match b! id 10 with|true=>some ([0,1,0,0,0,0,48,124,255],[(0,.pure),(1,.heavy),(2,.pure),(3,.pure),(4,.pure),(5,.pure),(6,.pure),(7,.pure),(8,.pure)])|false=>none) lf Tryz.f299
theorem ayS:aG a! aJ 299 apa:=bP aN (aS aKD (aS aKt aY)) Tryz.func299 kR
def azn:Fun:=dN a! aJ (λ_=>true) (λf=>match b! f 299 with|true=>some apa|false=>none) (λid=>none) lf Tryz.f292
theorem aKF:aG a! aJ 292 azn:=bP aN (aS ayS aY) Tryz.func292 kR
def azx:Fun:=dN a! aJ (λ_=>true) (λf=>match b! f 205 with|true=>some azv|false=>match b! f 292 with|true=>some azn|false=>match b! f 297 with|true=>some azk|false=>match b! f 299 with|true=>some apa|false=>match b! f 99 with|true=>some amj|false=>none) (λid=>match b! id 11 with|true=>some ([0,0,2,7,15],[(1,.pure),(2,.heavy),(0,.read 1),(3,.heavy),(4,.heavy)])|false=>none) lf Tryz.f200
theorem aKR:aG a! aJ 200 azx:=bP aN (aS aKP (aS aKF (aS aKC (aS ayS (aS auG aY))))) Tryz.func200 kR
def apf:Fun:=dN a! aJ (λ_=>true) (λf=>match b! f 196 with|true=>some apc|false=>match b! f 200 with|true=>some azx|false=>none) (λid=>none) lf Tryz.f120
theorem aK3:aG a! aJ 120 apf:=bP aN (aS ayV (aS aKR aY)) Tryz.func120 kR
def aza:Fun:=aez 5
theorem aKs:aG a! aJ 384 aza:=aqh (ps:=Tryz.f384.params) Tryz.func384 kR kR kR Tryz.underlying43 kR
def azj:Fun:=dN a! aJ (λ_=>true) (λf=>match b! f 384 with|true=>some aza|false=>none) (λid=>match b! id 0 with|true=>some ([0,1,3,7,15,31,0,127,255,0,512,1536,3584,7680,16383,32767],[(0,.pure),(1,.pure),(2,.pure),(3,.read 0),(4,.heavy),(5,.pure),(6,.pure),(7,.pure),(8,.heavy),(9,.pure),(10,.pure),(11,.pure),(12,.read 2),(13,.pure),(14,.pure),(15,.pure)])|false=>none) lf Tryz.f303
theorem aKB:aG a! aJ 303 azj:=bP aN (aS aKs aY) Tryz.func303 kR
def azw:Fun:=dN a! aJ (λ_=>true) (λf=>match b! f 173 with|true=>some ahf|false=>match b! f 303 with|true=>some azj|false=>none) (λid=>match b! id 3 with|true=>some ([0,1,3,7,15,0,32,96,224,480,1023,0,4095],[(0,.pure),(1,.pure),(2,.pure),(3,.read 0),(4,.heavy),(5,.pure),(6,.pure),(7,.pure),(8,.read 1),(9,.pure),(10,.pure),(11,.pure),(12,.pure)])|false=>none) lf Tryz.f204
theorem aKQ:aG a! aJ 204 azw:=bP aN (aS ao5 (aS aKB aY)) Tryz.func204 kR
def azG:Fun:=dN a! aJ (λ_=>true) (λf=>match b! f 204 with|true=>some azw|false=>match b! f 96 with|true=>some amk|false=>match b! f 99 with|true=>some amj|false=>none) (λid=>none) lf Tryz.f128
theorem aK1:aG a! aJ 128 azG:=bP aN (aS aKQ (aS auH (aS auG aY))) Tryz.func128 kR
def aDH:Fun:=dN a! aJ (λ_=>true) (λf=>match b! f 128 with|true=>some azG|false=>match b! f 96 with|true=>some amk|false=>none) (λid=>match b! id 0 with|true=>some ([0,1,3,0,8,31],[(3,.pure),(4,.heavy),(0,.pure),(1,.pure),(2,.pure),(5,.heavy)])|false=>none) lf Tryz.f98
theorem aM0:aG a! aJ 98 aDH:=bP aN (aS aK1 (aS auH aY)) Tryz.func98 kR
def ay6:Fun:=dN a! aJ (λ_=>true) (λf=>none) (λid=>none) lf Tryz.f394
theorem aKo:aG a! aJ 394 ay6:=bP aN aY Tryz.func394 kR
def ay3:Fun:=cntF
theorem aKj:aG a! aJ 442 ay3:=aIe Tryz.func442 kR kR kR kR
def azc:Fun:=dN a! aJ (λ_=>true) (λf=>match b! f 442 with|true=>some ay3|false=>none) (λid=>none) lf Tryz.f378
theorem aKu:aG a! aJ 378 azc:=bP aN (aS aKj aY) Tryz.func378 kR
def ay8:Fun:=dN a! aJ (λ_=>true) (λf=>match b! f 378 with|true=>some azc|false=>none) (λid=>none) lf Tryz.f392
theorem aKq:aG a! aJ 392 ay8:=bP aN (aS aKu aY) Tryz.func392 kR
def azh:Fun:=dN a! aJ (λ_=>true) (λf=>match b! f 392 with|true=>some ay8|false=>none) (λid=>none) lf Tryz.f325
theorem aKz:aG a! aJ 325 azh:=bP aN (aS aKq aY) Tryz.func325 kR
def ay2:Fun:=dN a! aJ (λ_=>true) (λf=>none) (λid=>none) lf Tryz.f447
theorem aKi:aG a! aJ 447 ay2:=bP aN aY Tryz.func447 kR
def ay9:Fun:=dN a! aJ (λ_=>true) (λf=>match b! f 447 with|true=>some ay2|false=>none) (λid=>none) lf Tryz.f388
theorem aKr:aG a! aJ 388 ay9:=bP aN (aS aKi aY) Tryz.func388 kR
def azi:Fun:=dN a! aJ (λ_=>true) (λf=>match b! f 388 with|true=>some ay9|false=>none) (λid=>none) lf Tryz.f309
theorem aKA:aG a! aJ 309 azi:=bP aN (aS aKr aY) Tryz.func309 kR
def azu:Fun:=dN a! aJ (λ_=>true) (λf=>match b! f 309 with|true=>some azi|false=>none) (λid=>none) lf Tryz.f209
theorem aKO:aG a! aJ 209 azu:=bP aN (aS aKA aY) Tryz.func209 kR
def ape:Fun:=dN a! aJ (λ_=>true) (λf=>match b! f 209 with|true=>some azu|false=>none) (λid=>none) lf Tryz.f126
theorem aK2:aG a! aJ 126 ape:=bP aN (aS aKO aY) Tryz.func126 kR
def ahe:Fun:=dN a! aJ (λ_=>true) (λf=>none) (λid=>none) lf Tryz.f233
theorem ayU:aG a! aJ 233 ahe:=bP aN aY Tryz.func233 kR
def ay7:Fun:=dN a! aJ (λ_=>true) (λf=>match b! f 233 with|true=>some ahe|false=>none) (λid=>none) lf Tryz.f393
theorem aKp:aG a! aJ 393 ay7:=bP aN (aS ayU aY) Tryz.func393 kR
def azg:Fun:=dN a! aJ (λ_=>true) (λf=>match b! f 196 with|true=>some apc|false=>match b! f 393 with|true=>some ay7|false=>none) (λid=>none) lf Tryz.f326
theorem aKy:aG a! aJ 326 azg:=bP aN (aS ayV (aS aKp aY)) Tryz.func326 kR
def aDK:Fun:=dN a! aJ (λ_=>true) (λf=>none) (λid=>none) lf Tryz.f93
theorem aM3:aG a! aJ 93 aDK:=bP aN aY Tryz.func93 kR
def aDI:Fun:=dN a! aJ (λ_=>true) (λf=>none) (λid=>match b! id 18 with|true=>some ([0,1,3,7,15,3,35,99,255,511],[(0,.pure),(1,.pure),(5,.pure),(6,.read 0),(7,.heavy),(2,.pure),(3,.pure),(4,.read 1),(8,.pure),(9,.pure)])|false=>match b! id 20 with|true=>some ([0,0,2,0,8,24,0,64,192,504,0,1024,3072,8184,16376,32760,65528,131071],[(3,.pure),(4,.read 0),(5,.heavy),(6,.pure),(7,.pure),(8,.read 1),(9,.heavy),(10,.pure),(11,.pure),(12,.read 2),(13,.heavy),(0,.pure),(1,.pure),(2,.pure),(14,.pure),(15,.pure),(16,.alloc),(17,.heavy)])|false=>match b! id 22 with|true=>some ([0,1,3,7,0,16,48,112,240,15,1023],[(0,.pure),(1,.pure),(2,.pure),(3,.read 0),(4,.pure),(5,.pure),(6,.pure),(7,.read 0),(8,.pure),(9,.pure),(10,.pure)])|false=>none) lf Tryz.f97
theorem aM1:aG a! aJ 97 aDI:=bP aN aY Tryz.func97 kR
def ay0:Fun:=dN a! aJ (λ_=>true) (λf=>none) (λid=>match b! id 4 with|true=>some ([0,0,3,7,15,15,15,111,239,15,15,1039,3599,7695,16383,32767,65535],[(0,.pure),(1,.pure),(2,.pure),(3,.pure),(4,.pure),(5,.pure),(6,.pure),(7,.pure),(8,.read 0),(9,.pure),(10,.pure),(11,.pure),(12,.pure),(13,.read 0),(14,.heavy),(15,.pure),(16,.pure)])|false=>match b! id 6 with|true=>some ([0,0,0,0,8,0,0,64,224,480,0,0,3072,7168,16355,32739,65535,131071],[(0,.pure),(1,.pure),(5,.pure),(6,.pure),(7,.pure),(8,.pure),(9,.read 0),(10,.pure),(11,.pure),(12,.pure),(13,.read 0),(14,.pure),(15,.heavy),(2,.pure),(3,.pure),(4,.pure),(16,.pure),(17,.heavy)])|false=>none) lf Tryz.f502
theorem aKg:aG a! aJ 502 ay0:=bP aN aY Tryz.func502 kR
def ay1:Fun:=dN a! aJ (λ_=>true) (λf=>match b! f 502 with|true=>some ay0|false=>none) (λid=>match b! id 17 with|true=>some ([0,1,3,7,7,7,39,119,247,7,7,1543,3591,8191,16383,32767,65535],[(0,.pure),(1,.pure),(2,.pure),(3,.pure),(4,.pure),(5,.pure),(6,.pure),(7,.pure),(8,.read 0),(9,.pure),(10,.pure),(11,.pure),(12,.read 0),(13,.heavy),(14,.pure),(15,.pure),(16,.pure)])|false=>none) lf Tryz.f460
theorem aKh:aG a! aJ 460 ay1:=bP aN (aS aKg aY) Tryz.func460 kR
def ay5:Fun:=dN a! aJ (λ_=>true) (λf=>match b! f 165 with|true=>some azE|false=>match b! f 460 with|true=>some ay1|false=>none) (λid=>none) lf Tryz.f395
theorem aKn:aG a! aJ 395 ay5:=bP aN (aS aKY (aS aKh aY)) Tryz.func395 kR
def azf:Fun:=dN a! aJ (λ_=>true) (λf=>match b! f 394 with|true=>some ay6|false=>match b! f 395 with|true=>some ay5|false=>none) (λid=>match b! id 8 with|true=>some ([0,1,3,7,15,31,7,7,135,455,967,1991,4095,8191],[(0,.pure),(1,.pure),(2,.pure),(3,.pure),(4,.read 0),(5,.pure),(6,.pure),(7,.pure),(8,.pure),(9,.pure),(10,.pure),(11,.read 0),(12,.pure),(13,.pure)])|false=>match b! id 9 with|true=>some ([0,0,2,0,0,16,56,120,248,0,512,2040,4095,8191,16383],[(0,.pure),(1,.pure),(2,.pure),(3,.pure),(4,.pure),(5,.pure),(6,.pure),(7,.pure),(8,.read 0),(9,.pure),(10,.read 0),(11,.pure),(12,.pure),(13,.pure),(14,.heavy)])|false=>none) lf Tryz.f327
theorem aKx:aG a! aJ 327 azf:=bP aN (aS aKo (aS aKn aY)) Tryz.func327 kR
def Yw:Fun:=dN a! aJ (λ_=>true) (λf=>match b! f 325 with|true=>some azh|false=>match b! f 326 with|true=>some azg|false=>match b! f 327 with|true=>some azf|false=>none) (λid=>none) lf Tryz.f224
theorem aKM:aG a! aJ 224 Yw:=bP aN (aS aKz (aS aKy (aS aKx aY))) Tryz.func224 kR
def azH:Fun:=MR
theorem aK4:aG a! aJ 108 azH:=aeK Tryz.func108 kR kR kR kR
def aDQ:Fun:=dN a! aJ (λ_=>true) (λf=>match b! f 108 with|true=>some azH|false=>none) (λid=>none) lf Tryz.f56
theorem aM9:aG a! aJ 56 aDQ:=bP aN (aS aK4 aY) Tryz.func56 kR
def amr:Fun:=dN a! aJ (λ_=>true) (λf=>match b! f 54 with|true=>some auJ|false=>match b! f 55 with|true=>some aDR|false=>match b! f 56 with|true=>some aDQ|false=>none) (λid=>none) lf Tryz.f26
theorem aDC:aG a! aJ 26 amr:=bP aN (aS aDv (aS aNa (aS aM9 aY))) Tryz.func26 kR
def azD:Fun:=X9 U
theorem aKX:aG a! aJ 166 azD:=amf Tryz.func166 kR kR kR U kR
def aDN:Fun:=dN a! aJ (λ_=>true) (λf=>match b! f 166 with|true=>some azD|false=>none) (λid=>none) lf Tryz.f84
theorem aM6:aG a! aJ 84 aDN:=bP aN (aS aKX aY) Tryz.func84 kR
def amq:Fun:=dN a! aJ (λ_=>true) (λf=>none) (λid=>none) lf Tryz.f27
theorem aDB:aG a! aJ 27 amq:=bP aN aY Tryz.func27 kR
def amo:Fun:=dN a! aJ (λ_=>true) (λf=>none) (λid=>none) lf Tryz.f28
theorem aDA:aG a! aJ 28 amo:=bP aN aY Tryz.func28 kR
def aDT:Fun:=dN a! aJ (λ_=>true) (λf=>none) (λid=>none) lf Tryz.f29
theorem aNh:aG a! aJ 29 aDT:=bP aN aY Tryz.func29 kR
def aDS:Fun:=dN a! aJ (λ_=>true) (λf=>none) (λid=>none) lf Tryz.f30
theorem aNg:aG a! aJ 30 aDS:=bP aN aY Tryz.func30 kR
def aDL:Fun:=dN a! aJ (λ_=>true) (λf=>none) (λid=>none) lf Tryz.f92
theorem aM4:aG a! aJ 92 aDL:=bP aN aY Tryz.func92 kR
def aDM:Fun:=dN a! aJ (λ_=>true) (λf=>match b! f 170 with|true=>some azC|false=>match b! f 171 with|true=>some azB|false=>match b! f 172 with|true=>some azA|false=>match b! f 92 with|true=>some aDL|false=>none) (λid=>match b! id 5 with|true=>some ([0,1,3,7,0,16,63,0,128,384,896,2047,4095,8191,8191,16383,65535],[(0,.pure),(1,.pure),(2,.pure),(3,.read 0),(4,.pure),(5,.alloc),(6,.heavy),(7,.pure),(8,.pure),(9,.pure),(10,.read 1),(11,.heavy),(12,.pure),(13,.pure),(14,.pure),(15,.pure),(16,.pure)])|false=>match b! id 10 with|true=>some ([0,0,2,6,14,0,32,96,224,510,1023],[(0,.pure),(1,.pure),(2,.pure),(3,.pure),(4,.read 0),(5,.pure),(6,.pure),(7,.pure),(8,.read 0),(9,.pure),(10,.pure)])|false=>none) lf Tryz.f91
theorem aM5:aG a! aJ 91 aDM:=bP aN (aS aKW (aS aKV (aS aKU (aS aM4 aY)))) Tryz.func91 kR
def Yu:Fun:=dN a! aJ (λ_=>true) (λf=>match b! f 91 with|true=>some aDM|false=>none) (λid=>match b! id 10 with|true=>some ([0,1,3,7,0,16,48,112,240,511,1023],[(0,.pure),(1,.pure),(2,.pure),(3,.read 0),(4,.pure),(5,.pure),(6,.pure),(7,.read 0),(8,.pure),(9,.pure),(10,.pure)])|false=>none) lf Tryz.f41
theorem ami:aG a! aJ 41 Yu:=bP aN (aS aM5 aY) Tryz.func41 kR
def aDP:Fun:=dN a! aJ (λ_=>true) (λf=>none) (λid=>none) lf Tryz.f58
theorem aM8:aG a! aJ 58 aDP:=bP aN aY Tryz.func58 kR
def aDJ:Fun:=dN a! aJ (λ_=>true) (λf=>match b! f 58 with|true=>some aDP|false=>none) (λid=>none) lf Tryz.f94
theorem aM2:aG a! aJ 94 aDJ:=bP aN (aS aM8 aY) Tryz.func94 kR
def amm:Fun:=dN a! aJ (λ_=>true) (λf=>match b! f 84 with|true=>some aDN|false=>match b! f 93 with|true=>some aDK|false=>match b! f 94 with|true=>some aDJ|false=>match b! f 95 with|true=>some aml|false=>match b! f 96 with|true=>some amk|false=>match b! f 97 with|true=>some aDI|false=>match b! f 98 with|true=>some aDH|false=>match b! f 99 with|true=>some amj|false=>none) (λid=>match b! id 16 with|true=>some ([0,1,3,0,8,24,56,0,0,256,768,2040,4095],[(3,.pure),(4,.pure),(5,.pure),(6,.read 0),(7,.pure),(8,.pure),(9,.read 0),(10,.pure),(11,.heavy),(0,.pure),(1,.pure),(2,.pure),(12,.heavy)])|false=>match b! id 20 with|true=>some ([0,1,3,7,0,16,48,15,255],[(0,.pure),(1,.pure),(2,.pure),(3,.heavy),(4,.pure),(5,.read 1),(6,.pure),(7,.pure),(8,.pure)])|false=>none) lf Tryz.f42
theorem aDx:aG a! aJ 42 amm:=bP aN (aS aM6 (aS aM3 (aS aM2 (aS auI (aS auH (aS aM1 (aS aM0 (aS auG aY)))))))) Tryz.func42 kR
def ams:Fun:=dN a! aJ (λ_=>true) (λf=>match b! f 40 with|true=>some auO|false=>match b! f 41 with|true=>some Yu|false=>match b! f 42 with|true=>some amm|false=>none) (λid=>none) lf Tryz.f13
theorem aDE:aG a! aJ 13 ams:=bP aN (aS aDy (aS ami (aS aDx aY))) Tryz.func13 kR
def aBv:Fun:=dN a! aJ (λ_=>true) (λf=>match b! f 13 with|true=>some ams|false=>match b! f 26 with|true=>some amr|false=>match b! f 27 with|true=>some amq|false=>match b! f 28 with|true=>some amo|false=>match b! f 29 with|true=>some aDT|false=>match b! f 30 with|true=>some aDS|false=>none) (λid=>none) lf Tryz.f9
theorem aOd:aG a! aJ 9 aBv:=bP aN (aS aDE (aS aDC (aS aDB (aS aDA (aS aNh (aS aNg aY)))))) Tryz.func9 kR
theorem aBa:((e! 100).all λn=>Gu aJ aJ [] [] (H (dP n)) (ape [Y U (n:Int)] (mkO aJ [])))=true:=kR
def auU:Fun:=DN ao3 ape
theorem aGs:aG a! aJ 126 auU:=zH aK2 λargs r e=>by
 obtain⟨n,a,rfl,rfl⟩:=ayN e;exact⟨rfl,d!.1 aBa n (c!.2 a)⟩
theorem aCS:((e! 100).all λn=>Gu aJ aJ [] [] (H (dP n)) (auT [Y U (n:Int)] (mkO aJ [])))=true:=kR
def azF:Fun:=DN ao3 auT
theorem aKZ:aG a! aJ 14 azF:=zH aNi λargs r e=>by
 obtain⟨n,a,rfl,rfl⟩:=ayN e;exact⟨rfl,d!.1 aCS n (c!.2 a)⟩
theorem aHz:Gu aJ aJ [] [] (.tuple (.cons (H [73,78,66,79,88]) (.cons (Y U 0) .nil))) (apf [H [73,78,66,79,88]] (mkO aJ []))=true:=kR
def auV:Fun:=DN (ao2 [73,78,66,79,88] (.tuple (.cons (H [73,78,66,79,88]) (.cons (Y U 0) .nil)))) apf
theorem aGt:aG a! aJ 120 auV:=zH aK3 λargs r e=>by
 obtain⟨rfl,rfl⟩:=ayM e;exact⟨rfl,aHz⟩
theorem aHA:Gu aJ aJ [] [] (H []) (aph [H [],H [105,110,45,114,101,112,108,121,45,116,111]] (mkO aJ []))=true:=kR
def auW:Fun:=DN (aha [] [105,110,45,114,101,112,108,121,45,116,111] (H [])) aph
theorem aGu:aG a! aJ 104 auW:=zH aK7 λargs r e=>by
 obtain⟨rfl,rfl⟩:=auC e;exact⟨rfl,aHA⟩
def aFZ(r:V)(args:List V):Option V:=match args with
 | []=>some r
 |_=>none
theorem aIm{q:V}{args:List V}{r:V}(e:aFZ q args=some r):args= []/\r=q:=by
 unfold aFZ at e;split at e
 ·cases e;exact⟨rfl,rfl⟩
 ·cases e
theorem aNy:Gu aJ aJ [] [] (K true) (aBv [] (mkO aJ []))=true:=kR
def aDG:Fun:=DN (aFZ (K true)) aBv
theorem aMZ:aG a! aJ 9 aDG:=zH aOd λargs r e=>by
 obtain⟨rfl,rfl⟩:=aIm e;exact⟨rfl,aNy⟩
def rdV(G:Nat)(a b:Int):V×List Ob:=(.tuple (.cons (.slice (Pos.of G) 0 1 (.kn 1)) (.cons (Y U 0) .nil)),[O (N 98 false) [Y U a,Y U b]])
def QH(args:List V):Option (V×List Ob):=match args with
 |H s:: Y U n:: []=>if 1<=n/\n<=20 then(if s= [49] then some (rdV aJ 1 1) else if s= [49,58,42] then some (rdV aJ 1 n) else if n<=9/\s= [48+n.toNat] then some (rdV aJ n n) else none) else none
 |_=>none
def agK:List Pos:= [Pos.of 13]
theorem aHx:((e! 20).all λn=>asj aJ Yw agK [H [49],Y U ((n:Int)+1)] (rdV aJ 1 1))=true:=kR
theorem aHw:((e! 20).all λn=>asj aJ Yw agK [H [49,58,42],Y U ((n:Int)+1)] (rdV aJ 1 ((n:Int)+1)))=true:=kR
theorem aHv:((e! 9).all λn=>asj aJ Yw agK [H [48+(n+1)],Y U ((n:Int)+1)] (rdV aJ ((n:Int)+1) ((n:Int)+1)))=true:=kR
theorem aFY{args:List V}{r:V×List Ob}(e:QH args=some r):∃n:Nat,n<20/\((n<9/\args= [H [48+(n+1)],Y U ((n:Int)+1)]/\r=rdV aJ ((n:Int)+1) ((n:Int)+1))\/(args= [H [49],Y U ((n:Int)+1)]/\r=rdV aJ 1 1)\/(args= [H [49,58,42],Y U ((n:Int)+1)]/\r=rdV aJ 1 ((n:Int)+1))):=by
 unfold QH at e;split at e
 ·rename_i s n;split at e
  ·rename_i c;have b:(((n - 1).toNat:Int)+1)=n:=by omega
   refine⟨(n - 1).toNat,by omega,?_⟩;rw[b];split at e
   ·rename_i a;cases e;exact Or.inr (Or.inl ⟨by rw[a],rfl⟩)
   ·split at e
    ·rename_i a;cases e;exact Or.inr (Or.inr ⟨by rw[a],rfl⟩)
    ·split at e
     ·rename_i a;cases e;refine Or.inl ⟨by omega,?_,rfl⟩;rw[a.2,show n.toNat=(n - 1).toNat+1 by omega]
     ·cases e
  ·cases e
 ·cases e
def auR:Fun:=aAe aJ QH Yw
theorem aGq:aG a! aJ 224 auR:=axK (l:=agK) aKM λargs r e=>by
 obtain⟨n,b,h|h|h⟩:=aFY e
 ·obtain⟨a,rfl,rfl⟩:=h;exact d!.1 aHv n (c!.2 a)
 ·obtain⟨rfl,rfl⟩:=h;exact d!.1 aHx n (c!.2 b)
 ·obtain⟨rfl,rfl⟩:=h;exact d!.1 aHw n (c!.2 b)
def aew(n:Nat):V:=.tuple (.cons (Y U (n:Int)) (.cons (K true) .nil))
def auD(args:List V):Option V:=match args with
 |H s:: []=>((e! 20).find? λn=>decide (dP n=s)).map aew
 |_=>none
theorem aHu:((e! 20).all λn=>Gu aJ aJ [] [] (aew n) (ahe [H (dP n)] (mkO aJ [])))=true:=kR
theorem aIk{args:List V}{r:V}(e:auD args=some r):∃n:Nat,n<20/\args= [H (dP n)]/\r=aew n:=by
 unfold auD at e;split at e
 ·rename_i s;cases a:(e! 20).find? λn=>decide (dP n=s) with
  |none=>rw[a]at e;cases e
  |some n=>
   rw[a]at e;cases e;have b:=List.find?_some a;exact⟨n,c!.1 (List.mem_of_find?_eq_some a),by rw[show dP n=s from of_decide_eq_true b],rfl⟩
 ·cases e
theorem aIl:∀n:Nat,n<20->auD [H (dP n)]=some (aew n):=λn b=>by
 have:((e! 20).all λn=>match (e! 20).find? λm=>decide (dP m=dP n) with|some k=>b! k n|none=>false)=true:=kR;have h:=d!.1 this n (c!.2 b);unfold auD;simp only[];split at h
 ·rename_i k a;rw[a,g! h];rfl
 ·cases h
def auQ:Fun:=DN auD ahe
theorem aGp:aG a! aJ 233 auQ:=zH ayU λargs r e=>by
 obtain⟨n,a,rfl,rfl⟩:=aIk e;exact⟨rfl,d!.1 aHu n (c!.2 a)⟩
theorem aE5:Gu aJ aJ [] [] (.tuple (.cons (H [45,102,108,97,103,115]) (.cons (K true) .nil))) (ahd [H [45,102,108,97,103,115,46,115,105,108,101,110,116],H [46,115,105,108,101,110,116]] (mkO aJ []))=true:=kR
def aqA:Fun:=DN (aha [45,102,108,97,103,115,46,115,105,108,101,110,116] [46,115,105,108,101,110,116] (.tuple (.cons (H [45,102,108,97,103,115]) (.cons (K true) .nil)))) ahd
theorem aDD:aG a! aJ 251 aqA:=zH ayT λargs r e=>by
 obtain⟨rfl,rfl⟩:=auC e;exact⟨rfl,aE5⟩
theorem aHy:Gu aJ aJ [] [] (.tuple (.cons (H [121]) (.cons (K true) .nil))) (apb [H [121]] (mkO aJ []))=true:=kR
def auS:Fun:=DN (ao2 [121] (.tuple (.cons (H [121]) (.cons (K true) .nil)))) apb
theorem aGr:aG a! aJ 212 auS:=zH aKN λargs r e=>by
 obtain⟨rfl,rfl⟩:=ayM e;exact⟨rfl,aHy⟩
end Go.Proofs.Ik
