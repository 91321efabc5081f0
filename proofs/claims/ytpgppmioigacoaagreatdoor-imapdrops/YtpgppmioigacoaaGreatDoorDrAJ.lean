/- Lemmas that the claim's last text uses. No conditions. -/
import Derived.Test.YtpgppmioigacoaaGreatDoorProg
import Derived.KernelRfl
import Derived.Test.YtpgppmioigacoaaGreatDoorDrAF
import Derived.Test.YtpgppmioigacoaaGreatDoorDrAG
import Derived.Test.YtpgppmioigacoaaGreatDoorDrAH
set_option linter.all false
set_option maxHeartbeats 4000000
set_option maxRecDepth 100000
open Go.Proofs.Tryz renaming prog→a!
open Nat renaming beq→b!
open List renaming mem_range→c!,all_eq_true→d!,range→e!
open Go.Vm.V renaming int→Y,bool→K,str→H
open Go.IntKind renaming i64→U
open Go.Vm.Ob renaming cells→O
open Go.Vm.Wr renaming rw→N
open Go.Vm.R renaming ok→D
noncomputable section
open Go Go.Proofs Go.Vm
namespace Go.Vm
def iq(n:Nat):List Nat:=match Nat.blt n 10 with|true=> [48+n]|false=> [48+n / 10,48+n % 10]
def amv(args:List V):Option V:=match args with
 |Y U n:: []=>if 0<=n/\n<100 then some (H (iq n.toNat)) else none
 |_=>none
def amu(s:List Nat)(r:V)(args:List V):Option V:=match args with
 |H t:: []=>if t=s then some r else none
 |_=>none
def aeV(s s':List Nat)(r:V)(args:List V):Option V:=match args with
 |H t:: H t':: []=>if t=s/\t'=s' then some r else none
 |_=>none
theorem avG{args:List V}{r:V}(e:amv args=some r):∃n:Nat,n<100/\args= [Y U (n:Int)]/\r=H (iq n):=by
 unfold amv at e;split at e
 ·split at e
  ·rename_i n a;cases e;exact⟨n.toNat,by omega,by rw[Int.toNat_of_nonneg a.1],rfl⟩
  ·cases e
 ·cases e
theorem avF{s:List Nat}{q:V}{args:List V}{r:V}(e:amu s q args=some r):args= [H s]/\r=q:=by
 unfold amu at e;split at e
 ·split at e
  ·rename_i h;cases e;exact⟨by rw[h],rfl⟩
  ·cases e
 ·cases e
theorem arB{s s':List Nat}{q:V}{args:List V}{r:V}(e:aeV s s' q args=some r):args= [H s,H s']/\r=q:=by
 unfold aeV at e;split at e
 ·split at e
  ·rename_i h;cases e;exact⟨by rw[h.1,h.2],rfl⟩
  ·cases e
 ·cases e
theorem avH{n:Nat}(h:n<100):amv [Y U (n:Int)]=some (H (iq n)):=by
 unfold amv;simp only[];rw[if_pos (by omega),Int.toNat_natCast]
theorem aEQ(s:List Nat)(r:V):amu s r [H s]=some r:=by
 unfold amu;exact if_pos rfl
theorem aCE(s s':List Nat)(r:V):aeV s s' r [H s,H s']=some r:=by
 unfold aeV;exact if_pos ⟨rfl,rfl⟩
theorem PW{A:List V->Option V}{F:Fun}{args:List V}{r:V}(e:A args=some r)(h:Hp):DC A F args h=D r h:=by
 unfold DC;rw[e]
def axf(G:Nat)(A:List V->Option (V×List Ob))(F:Fun):Fun:=λargs h=>match A args with
 |some r=>YG G [] r.2 r.1 [] h
 |none=>F args h
def apw(G:Nat)(F:Fun)(l:List Pos)(args:List V)(r:V×List Ob):Bool:=
 (apc G 0 args [] [] r.2 r.1&&(eqL args (PY (tau G []) args)&&b! (acI (UA G args args [])) 0))&&FM G G (r.2.map some) l r.1 (F args (mkO G []))
theorem auE{P:Program}{G:Nat}{f:FuncId}{F:Fun}{A:List V->Option (V×List Ob)}{l:List Pos}(c:aG P G f F)(j:∀args r,A args=some r->apw G F l args r=true):aG P G f (axf G A F):=by
 intro args h r h' M w cargs e g d;unfold axf at e;split at e
 ·rename_i q s;have hb:=j _ _ s;unfold apw at hb;simp only[Bool.and_eq_true]at hb;obtain⟨⟨b1,b2,b⟩,i⟩:=hb;have o:UA G args args []= []:=by
   have b:=Nat.eq_of_beq_eq_true b;cases hl:UA G args args [] with
   |nil=>rfl
   |cons a l=>rw[hl]at b;cases b
  have p:(mkO G []).next.nat=G:=by rw[QE];rfl
  have k:=Does.comp c p i;have m:=au7 (ks:= []) (cs:= []) (news:=q.2) (rc:=q.1) (n:=0) (a0:=args) c b1 (by simpa[patch]using k);refine m args h r h' M w cargs ?_ g d;unfold ahz;have hh:UB G args [] args h=some []:=by
   unfold UB;rw[o];dsimp only;rw[b2];simp only[Yy,okC,b2,VQ,VY,alS,Bool.and_self,if_true]
  rw[hh];exact e
 ·exact c args h r h' M w cargs e g d
end Go.Vm
namespace Go.Proofs.Ik
theorem aO:a!.follows .mixedOrders=true:=kR
def aH:Nat:=7
def aI0:bV:=λid=>match b! id 3 with|true=>some ([0,1,3,0,8,24,56,120,248,511,1023],[(0,.pure),(1,.pure),(2,.heavy),(3,.pure),(4,.pure),(5,.pure),(6,.pure),(7,.alloc),(8,.own 7),(9,.pure),(10,.pure)])|false=>none
def azV(e:FuncId->Option Fun):FuncId->Option Fun:=λf=>match b! f 14 with|true=>some (dL a! aH (λ_=>true) (λf=>e f) aI0 lf Tryz.f14)|false=>none
theorem aEY(e:FuncId->Option Fun)(a:∀f F,e f=some F->aG a! aH f F):∀f F,azV e f=some F->aG a! aH f F:=aS (bI aO a Tryz.func14 kR) (aY)
def arQ:Fun:=axB (levels (λ_=>none) azV 40) 14
theorem aJU:aG a! aH 14 arQ:=aBL (anO aY aEY 40) 14
def aGM:FuncId->Option Fun:=λf=>none
def aFQ:bV:=λid=>none
def awG:Fun:=dL a! aH (λ_=>true) aGM aFQ lf Tryz.f106
theorem aHE:aG a! aH 106 awG:=bI aO aY Tryz.func106 kR
def aGC:FuncId->Option Fun:=λf=>none
def aFG:bV:=λid=>none
def awv:Fun:=dL a! aH (λ_=>true) aGC aFG lf Tryz.f182
theorem aHt:aG a! aH 182 awv:=bI aO aY Tryz.func182 kR
def aGm:FuncId->Option Fun:=λf=>none
def aFq:bV:=λid=>match b! id 1 with|true=>some ([0,0,0,7,0,15,63],[(0,.read 0),(1,.read 0),(2,.read 0),(3,.pure),(4,.read 0),(5,.pure),(6,.pure)])|false=>match b! id 4 with|true=>some ([0,0,3,7,0,0,48,112,15,511],[(0,.pure),(1,.pure),(2,.pure),(3,.heavy),(4,.read 1),(5,.pure),(6,.pure),(7,.pure),(8,.pure),(9,.pure)])|false=>none
def avR:aj1:=ax0 a! aH (λ_=>true) aGm aFq lf Tryz.f287
theorem aFT:FV a! aH 287 avR:=aB1 aO aY Tryz.func287 kR
def aGN:FuncId->Option Fun:=λf=>match b! f 182 with|true=>some awv|false=>none
def aFR:bV:=λid=>match b! id 22 with|true=>some ([0,0,1,7],[(0,.pure),(1,.read 0),(2,.pure),(3,.heavy)])|false=>none
def aFU:Kt:=λf=>match b! f 287 with|true=>some avR|false=>none
def awH:Fun:=aB9 a! aH (λ_=>true) aGN aFU aFR lf Tryz.f105
theorem aHF:aG a! aH 105 awH:=aEy aO (aS aHt aY) (aqT aFT azr) Tryz.func105 kR
def aGO:FuncId->Option Fun:=λf=>match b! f 105 with|true=>some awH|false=>match b! f 106 with|true=>some awG|false=>none
def aFS:bV:=λid=>none
def amI:Fun:=dL a! aH (λ_=>true) aGO aFS lf Tryz.f104
theorem aHG:aG a! aH 104 amI:=bI aO (aS aHF (aS aHE aY)) Tryz.func104 kR
def aI2:FuncId->Option Fun:=λf=>none
def aID:bV:=λid=>match b! id 1 with|true=>some ([0,1,3,7,15,0,32,96,224,480,1023,2047],[(0,.pure),(1,.pure),(2,.pure),(3,.read 0),(4,.heavy),(5,.pure),(6,.pure),(7,.pure),(8,.read 1),(9,.pure),(10,.heavy),(11,.pure)])|false=>none
def ajP:Fun:=dL a! aH (λ_=>true) aI2 aID lf Tryz.f99
theorem arF:aG a! aH 99 ajP:=bI aO aY Tryz.func99 kR
def aJj:FuncId->Option Fun:=λf=>none
def aIU:bV:=λid=>none
def arN:Fun:=dL a! aH (λ_=>true) aJj aIU lf Tryz.f40
theorem aAl:aG a! aH 40 arN:=bI aO aY Tryz.func40 kR
def aGq:FuncId->Option Fun:=λf=>none
def aFu:bV:=λid=>none
def awp:Fun:=dL a! aH (λ_=>true) aGq aFu lf Tryz.f269
theorem aHl:aG a! aH 269 awp:=bI aO aY Tryz.func269 kR
def aGH:FuncId->Option Fun:=λf=>match b! f 269 with|true=>some awp|false=>none
def aFL:bV:=λid=>none
def awC:Fun:=dL a! aH (λ_=>true) aGH aFL lf Tryz.f165
theorem aHy:aG a! aH 165 awC:=bI aO (aS aHl aY) Tryz.func165 kR
def aGn:FuncId->Option Fun:=λf=>none
def aFr:bV:=λid=>match b! id 1 with|true=>some ([0,1,3,7,0,16,48,112,255,511,0,1024,3072,7168,16383,32767],[(0,.pure),(1,.pure),(2,.pure),(3,.read 0),(4,.pure),(5,.pure),(6,.pure),(7,.read 0),(8,.pure),(9,.read 0),(10,.pure),(11,.pure),(12,.pure),(13,.read 0),(14,.pure),(15,.pure)])|false=>none
def Wp:Fun:=dL a! aH (λ_=>true) aGn aFr lf Tryz.f281
theorem aeW:aG a! aH 281 Wp:=bI aO aY Tryz.func281 kR
def aF7:FuncId->Option Fun:=λf=>match b! f 281 with|true=>some Wp|false=>none
def aFb:bV:=λid=>none
def amz:Fun:=dL a! aH (λ_=>true) aF7 aFb lf Tryz.f367
theorem avI:aG a! aH 367 amz:=bI aO (aS aeW aY) Tryz.func367 kR
def aFY:FuncId->Option Fun:=λf=>match b! f 281 with|true=>some Wp|false=>none
def aE2:bV:=λid=>match b! id 1 with|true=>some ([0,1,3,7,15,31,63,127,15,271,783,1807,3855,8191,16383,32767],[(0,.pure),(1,.heavy),(2,.pure),(3,.pure),(4,.pure),(5,.pure),(6,.pure),(7,.read 0),(8,.pure),(9,.pure),(10,.pure),(11,.read 0),(12,.pure),(13,.pure),(14,.pure),(15,.pure)])|false=>none
def avW:Fun:=dL a! aH (λ_=>true) aFY aE2 lf Tryz.f425
theorem aGT:aG a! aH 425 avW:=bI aO (aS aeW aY) Tryz.func425 kR
def awm:Fun:=apd
theorem aHi:aG a! aH 282 awm:=apT Tryz.func282 kR kR kR kR
def aGD:FuncId->Option Fun:=λf=>match b! f 282 with|true=>some awm|false=>none
def aFH:bV:=λid=>none
def aeZ:Fun:=dL a! aH (λ_=>true) aGD aFH lf Tryz.f173
theorem amx:aG a! aH 173 aeZ:=bI aO (aS aHi aY) Tryz.func173 kR
def aGw:FuncId->Option Fun:=λf=>match b! f 173 with|true=>some aeZ|false=>none
def aFA:bV:=λid=>none
def awr:Fun:=dL a! aH (λ_=>true) aGw aFA lf Tryz.f205
theorem aHp:aG a! aH 205 awr:=bI aO (aS amx aY) Tryz.func205 kR
def aI5:FuncId->Option Fun:=λf=>match b! f 173 with|true=>some aeZ|false=>none
def aIG:bV:=λid=>none
def ajQ:Fun:=dL a! aH (λ_=>true) aI5 aIG lf Tryz.f96
theorem arG:aG a! aH 96 ajQ:=bI aO (aS amx aY) Tryz.func96 kR
def awl:Fun:=aqX
theorem aHh:aG a! aH 289 awl:=al9 Tryz.func289 kR kR kR kR
def aGB:FuncId->Option Fun:=λf=>match b! f 289 with|true=>some awl|false=>none
def aFF:bV:=λid=>none
def amE:Fun:=dL a! aH (λ_=>true) aGB aFF lf Tryz.f184
theorem avO:aG a! aH 184 amE:=bI aO (aS aHh aY) Tryz.func184 kR
def aGL:FuncId->Option Fun:=λf=>match b! f 184 with|true=>some amE|false=>none
def aFP:bV:=λid=>none
def amH:Fun:=dL a! aH (λ_=>true) aGL aFP lf Tryz.f107
theorem avP:aG a! aH 107 amH:=bI aO (aS avO aY) Tryz.func107 kR
def aF8:FuncId->Option Fun:=λf=>match b! f 107 with|true=>some amH|false=>match b! f 281 with|true=>some Wp|false=>match b! f 367 with|true=>some amz|false=>match b! f 425 with|true=>some avW|false=>none
def aFc:bV:=λid=>match b! id 2 with|true=>some ([0,1,3,7,0,16,48,112,255,511,1023,0,4095],[(0,.pure),(1,.pure),(2,.pure),(3,.read 0),(4,.pure),(5,.pure),(6,.pure),(7,.read 0),(8,.pure),(9,.read 0),(10,.pure),(11,.alloc),(12,.heavy)])|false=>match b! id 17 with|true=>some ([0,0,2,6,14,30,31,127],[(1,.pure),(2,.pure),(3,.pure),(4,.heavy),(0,.read 1),(6,.heavy),(5,.pure),(7,.pure)])|false=>none
def av7:Fun:=dL a! aH (λ_=>true) aF8 aFc lf Tryz.f366
theorem aG5:aG a! aH 366 av7:=bI aO (aS avP (aS aeW (aS avI (aS aGT aY)))) Tryz.func366 kR
def aGo:FuncId->Option Fun:=λf=>match b! f 366 with|true=>some av7|false=>match b! f 367 with|true=>some amz|false=>none
def aFs:bV:=λid=>none
def awn:Fun:=dL a! aH (λ_=>true) aGo aFs lf Tryz.f280
theorem aHj:aG a! aH 280 awn:=bI aO (aS aG5 (aS avI aY)) Tryz.func280 kR
def aGE:FuncId->Option Fun:=λf=>match b! f 280 with|true=>some awn|false=>match b! f 281 with|true=>some Wp|false=>none
def aFI:bV:=λid=>match b! id 10 with|true=>some ([0,0,2,6,14,30,62,126,254,510,1022,2046,254,4350,16382,32766,255,131071],[(1,.pure),(2,.pure),(3,.pure),(4,.heavy),(0,.pure),(5,.pure),(6,.pure),(7,.pure),(8,.pure),(9,.pure),(10,.pure),(11,.read 0),(12,.pure),(13,.pure),(14,.pure),(15,.pure),(16,.pure),(17,.pure)])|false=>none
def aww:Fun:=dL a! aH (λ_=>true) aGE aFI lf Tryz.f172
theorem aHu:aG a! aH 172 aww:=bI aO (aS aHj (aS aeW aY)) Tryz.func172 kR
def aF6:FuncId->Option Fun:=λf=>match b! f 184 with|true=>some amE|false=>none
def aFa:bV:=λid=>none
def av6:Fun:=dL a! aH (λ_=>true) aF6 aFa lf Tryz.f376
theorem aG4:aG a! aH 376 av6:=bI aO (aS avO aY) Tryz.func376 kR
def aGj:FuncId->Option Fun:=λf=>match b! f 376 with|true=>some av6|false=>none
def aFn:bV:=λid=>match b! id 3 with|true=>some ([0,0,3,0,0,0,32,112,248,7,1023,2047],[(0,.pure),(1,.pure),(2,.pure),(3,.pure),(4,.pure),(5,.pure),(6,.pure),(7,.pure),(8,.pure),(9,.pure),(10,.pure),(11,.pure)])|false=>none
def awi:Fun:=dL a! aH (λ_=>true) aGj aFn lf Tryz.f294
theorem aHe:aG a! aH 294 awi:=bI aO (aS aG4 aY) Tryz.func294 kR
def aGz:FuncId->Option Fun:=λf=>match b! f 294 with|true=>some awi|false=>none
def aFD:bV:=λid=>none
def amD:Fun:=dL a! aH (λ_=>true) aGz aFD lf Tryz.f196
theorem avN:aG a! aH 196 amD:=bI aO (aS aHe aY) Tryz.func196 kR
def aJg:FuncId->Option Fun:=λf=>match b! f 107 with|true=>some amH|false=>none
def aIR:bV:=λid=>none
def arI:Fun:=dL a! aH (λ_=>true) aJg aIR lf Tryz.f54
theorem aAi:aG a! aH 54 arI:=bI aO (aS avP aY) Tryz.func54 kR
def aGl:FuncId->Option Fun:=λf=>none
def aFp:bV:=λid=>none
def awk:Fun:=dL a! aH (λ_=>true) aGl aFp lf Tryz.f291
theorem aHg:aG a! aH 291 awk:=bI aO aY Tryz.func291 kR
def aGA:FuncId->Option Fun:=λf=>match b! f 291 with|true=>some awk|false=>none
def aFE:bV:=λid=>none
def awu:Fun:=dL a! aH (λ_=>true) aGA aFE lf Tryz.f186
theorem aHs:aG a! aH 186 awu:=bI aO (aS aHg aY) Tryz.func186 kR
def aGh:FuncId->Option Fun:=λf=>none
def aFl:bV:=λid=>none
def awg:Fun:=dL a! aH (λ_=>true) aGh aFl lf Tryz.f297
theorem aHc:aG a! aH 297 awg:=bI aO aY Tryz.func297 kR
def aI6:FuncId->Option Fun:=λf=>none
def aIH:bV:=λid=>none
def ajR:Fun:=dL a! aH (λ_=>true) aI6 aIH lf Tryz.f95
theorem arH:aG a! aH 95 ajR:=bI aO aY Tryz.func95 kR
def aJc:FuncId->Option Fun:=λf=>match b! f 54 with|true=>some arI|false=>match b! f 95 with|true=>some ajR|false=>none
def aIN:bV:=λid=>none
def aAA:Fun:=dL a! aH (λ_=>true) aJc aIN lf Tryz.f80
theorem aJJ:aG a! aH 80 aAA:=bI aO (aS aAi (aS arH aY)) Tryz.func80 kR
def aGu:FuncId->Option Fun:=λf=>match b! f 80 with|true=>some aAA|false=>match b! f 95 with|true=>some ajR|false=>none
def aFy:bV:=λid=>none
def amC:Fun:=dL a! aH (λ_=>true) aGu aFy lf Tryz.f212
theorem aHn:aG a! aH 212 amC:=bI aO (aS aJJ (aS arH aY)) Tryz.func212 kR
def aJf:FuncId->Option Fun:=λf=>none
def aIQ:bV:=λid=>none
def aAD:Fun:=dL a! aH (λ_=>true) aJf aIQ lf Tryz.f55
theorem aJM:aG a! aH 55 aAD:=bI aO aY Tryz.func55 kR
def aF9:FuncId->Option Fun:=λf=>none
def aFd:bV:=λid=>none
def amA:Fun:=dL a! aH (λ_=>true) aF9 aFd lf Tryz.f365
theorem avJ:aG a! aH 365 amA:=bI aO aY Tryz.func365 kR
def aGp:FuncId->Option Fun:=λf=>match b! f 365 with|true=>some amA|false=>none
def aFt:bV:=λid=>none
def awo:Fun:=dL a! aH (λ_=>true) aGp aFt lf Tryz.f279
theorem aHk:aG a! aH 279 awo:=bI aO (aS avJ aY) Tryz.func279 kR
def aGG:FuncId->Option Fun:=λf=>match b! f 279 with|true=>some awo|false=>none
def aFK:bV:=λid=>none
def awy:Fun:=dL a! aH (λ_=>true) aGG aFK lf Tryz.f170
theorem aHw:aG a! aH 170 awy:=bI aO (aS aHk aY) Tryz.func170 kR
def aGa:FuncId->Option Fun:=λf=>match b! f 365 with|true=>some amA|false=>none
def aFe:bV:=λid=>none
def av8:Fun:=dL a! aH (λ_=>true) aGa aFe lf Tryz.f352
theorem aG6:aG a! aH 352 av8:=bI aO (aS avJ aY) Tryz.func352 kR
def aGr:FuncId->Option Fun:=λf=>match b! f 352 with|true=>some av8|false=>none
def aFv:bV:=λid=>none
def aeX:Fun:=dL a! aH (λ_=>true) aGr aFv lf Tryz.f251
theorem avL:aG a! aH 251 aeX:=bI aO (aS aG6 aY) Tryz.func251 kR
def aGF:FuncId->Option Fun:=λf=>match b! f 186 with|true=>some awu|false=>match b! f 251 with|true=>some aeX|false=>none
def aFJ:bV:=λid=>none
def awx:Fun:=dL a! aH (λ_=>true) aGF aFJ lf Tryz.f171
theorem aHv:aG a! aH 171 awx:=bI aO (aS aHs (aS avL aY)) Tryz.func171 kR
def aGi:FuncId->Option Fun:=λf=>none
def aFm:bV:=λid=>none
def awh:Fun:=dL a! aH (λ_=>true) aGi aFm lf Tryz.f295
theorem aHd:aG a! aH 295 awh:=bI aO aY Tryz.func295 kR
def aF4:FuncId->Option Fun:=λf=>none
def aE8:bV:=λid=>none
def av4:Fun:=dL a! aH (λ_=>true) aF4 aE8 lf Tryz.f382
theorem aG2:aG a! aH 382 av4:=bI aO aY Tryz.func382 kR
def aGg:FuncId->Option Fun:=λf=>match b! f 295 with|true=>some awh|false=>match b! f 382 with|true=>some av4|false=>none
def aFk:bV:=λid=>match b! id 10 with|true=>some ([0,1,0,0,0,0,48,124,255],[(0,.pure),(1,.heavy),(2,.pure),(3,.pure),(4,.pure),(5,.pure),(6,.pure),(7,.pure),(8,.pure)])|false=>none
def amB:Fun:=dL a! aH (λ_=>true) aGg aFk lf Tryz.f299
theorem avK:aG a! aH 299 amB:=bI aO (aS aHd (aS aG2 aY)) Tryz.func299 kR
def aGk:FuncId->Option Fun:=λf=>match b! f 299 with|true=>some amB|false=>none
def aFo:bV:=λid=>none
def awj:Fun:=dL a! aH (λ_=>true) aGk aFo lf Tryz.f292
theorem aHf:aG a! aH 292 awj:=bI aO (aS avK aY) Tryz.func292 kR
def aGy:FuncId->Option Fun:=λf=>match b! f 205 with|true=>some awr|false=>match b! f 292 with|true=>some awj|false=>match b! f 297 with|true=>some awg|false=>match b! f 299 with|true=>some amB|false=>match b! f 99 with|true=>some ajP|false=>none
def aFC:bV:=λid=>match b! id 11 with|true=>some ([0,0,2,7,15],[(1,.pure),(2,.heavy),(0,.read 1),(3,.heavy),(4,.heavy)])|false=>none
def awt:Fun:=dL a! aH (λ_=>true) aGy aFC lf Tryz.f200
theorem aHr:aG a! aH 200 awt:=bI aO (aS aHp (aS aHf (aS aHc (aS avK (aS arF aY))))) Tryz.func200 kR
def aGK:FuncId->Option Fun:=λf=>match b! f 196 with|true=>some amD|false=>match b! f 200 with|true=>some awt|false=>none
def aFO:bV:=λid=>none
def amG:Fun:=dL a! aH (λ_=>true) aGK aFO lf Tryz.f120
theorem aHC:aG a! aH 120 amG:=bI aO (aS avN (aS aHr aY)) Tryz.func120 kR
def av3:Fun:=acF 5
theorem aG1:aG a! aH 384 av3:=anI (ps:=Tryz.f384.params) Tryz.func384 kR kR kR Tryz.underlying43 kR
def aGf:FuncId->Option Fun:=λf=>match b! f 384 with|true=>some av3|false=>none
def aFj:bV:=λid=>match b! id 0 with|true=>some ([0,1,3,7,15,31,0,127,255,0,512,1536,3584,7680,16383,32767],[(0,.pure),(1,.pure),(2,.pure),(3,.read 0),(4,.heavy),(5,.pure),(6,.pure),(7,.pure),(8,.heavy),(9,.pure),(10,.pure),(11,.pure),(12,.read 2),(13,.pure),(14,.pure),(15,.pure)])|false=>none
def awf:Fun:=dL a! aH (λ_=>true) aGf aFj lf Tryz.f303
theorem aHb:aG a! aH 303 awf:=bI aO (aS aG1 aY) Tryz.func303 kR
def aGx:FuncId->Option Fun:=λf=>match b! f 173 with|true=>some aeZ|false=>match b! f 303 with|true=>some awf|false=>none
def aFB:bV:=λid=>match b! id 3 with|true=>some ([0,1,3,7,15,0,32,96,224,480,1023,0,4095],[(0,.pure),(1,.pure),(2,.pure),(3,.read 0),(4,.heavy),(5,.pure),(6,.pure),(7,.pure),(8,.read 1),(9,.pure),(10,.pure),(11,.pure),(12,.pure)])|false=>none
def aws:Fun:=dL a! aH (λ_=>true) aGx aFB lf Tryz.f204
theorem aHq:aG a! aH 204 aws:=bI aO (aS amx (aS aHb aY)) Tryz.func204 kR
def aGI:FuncId->Option Fun:=λf=>match b! f 204 with|true=>some aws|false=>match b! f 96 with|true=>some ajQ|false=>match b! f 99 with|true=>some ajP|false=>none
def aFM:bV:=λid=>none
def awE:Fun:=dL a! aH (λ_=>true) aGI aFM lf Tryz.f128
theorem aHA:aG a! aH 128 awE:=bI aO (aS aHq (aS arG (aS arF aY))) Tryz.func128 kR
def aI3:FuncId->Option Fun:=λf=>match b! f 128 with|true=>some awE|false=>match b! f 96 with|true=>some ajQ|false=>none
def aIE:bV:=λid=>match b! id 0 with|true=>some ([0,1,3,0,8,31],[(3,.pure),(4,.heavy),(0,.pure),(1,.pure),(2,.pure),(5,.heavy)])|false=>none
def aAt:Fun:=dL a! aH (λ_=>true) aI3 aIE lf Tryz.f98
theorem aJC:aG a! aH 98 aAt:=bI aO (aS aHA (aS arG aY)) Tryz.func98 kR
def aF0:FuncId->Option Fun:=λf=>none
def aE4:bV:=λid=>none
def avY:Fun:=dL a! aH (λ_=>true) aF0 aE4 lf Tryz.f394
theorem aGX:aG a! aH 394 avY:=bI aO aY Tryz.func394 kR
def avV:Fun:=cntF
theorem aGS:aG a! aH 442 avV:=aEL Tryz.func442 kR kR kR kR
def aF5:FuncId->Option Fun:=λf=>match b! f 442 with|true=>some avV|false=>none
def aE9:bV:=λid=>none
def av5:Fun:=dL a! aH (λ_=>true) aF5 aE9 lf Tryz.f378
theorem aG3:aG a! aH 378 av5:=bI aO (aS aGS aY) Tryz.func378 kR
def aF2:FuncId->Option Fun:=λf=>match b! f 378 with|true=>some av5|false=>none
def aE6:bV:=λid=>none
def av1:Fun:=dL a! aH (λ_=>true) aF2 aE6 lf Tryz.f392
theorem aGZ:aG a! aH 392 av1:=bI aO (aS aG3 aY) Tryz.func392 kR
def aGd:FuncId->Option Fun:=λf=>match b! f 392 with|true=>some av1|false=>none
def aFh:bV:=λid=>none
def awd:Fun:=dL a! aH (λ_=>true) aGd aFh lf Tryz.f325
theorem aG9:aG a! aH 325 awd:=bI aO (aS aGZ aY) Tryz.func325 kR
def aFX:FuncId->Option Fun:=λf=>none
def aE1:bV:=λid=>none
def avU:Fun:=dL a! aH (λ_=>true) aFX aE1 lf Tryz.f447
theorem aGR:aG a! aH 447 avU:=bI aO aY Tryz.func447 kR
def aF3:FuncId->Option Fun:=λf=>match b! f 447 with|true=>some avU|false=>none
def aE7:bV:=λid=>none
def av2:Fun:=dL a! aH (λ_=>true) aF3 aE7 lf Tryz.f388
theorem aG0:aG a! aH 388 av2:=bI aO (aS aGR aY) Tryz.func388 kR
def aGe:FuncId->Option Fun:=λf=>match b! f 388 with|true=>some av2|false=>none
def aFi:bV:=λid=>none
def awe:Fun:=dL a! aH (λ_=>true) aGe aFi lf Tryz.f309
theorem aHa:aG a! aH 309 awe:=bI aO (aS aG0 aY) Tryz.func309 kR
def aGv:FuncId->Option Fun:=λf=>match b! f 309 with|true=>some awe|false=>none
def aFz:bV:=λid=>none
def awq:Fun:=dL a! aH (λ_=>true) aGv aFz lf Tryz.f209
theorem aHo:aG a! aH 209 awq:=bI aO (aS aHa aY) Tryz.func209 kR
def aGJ:FuncId->Option Fun:=λf=>match b! f 209 with|true=>some awq|false=>none
def aFN:bV:=λid=>none
def amF:Fun:=dL a! aH (λ_=>true) aGJ aFN lf Tryz.f126
theorem aHB:aG a! aH 126 amF:=bI aO (aS aHo aY) Tryz.func126 kR
def aGs:FuncId->Option Fun:=λf=>none
def aFw:bV:=λid=>none
def aeY:Fun:=dL a! aH (λ_=>true) aGs aFw lf Tryz.f233
theorem avM:aG a! aH 233 aeY:=bI aO aY Tryz.func233 kR
def aF1:FuncId->Option Fun:=λf=>match b! f 233 with|true=>some aeY|false=>none
def aE5:bV:=λid=>none
def avZ:Fun:=dL a! aH (λ_=>true) aF1 aE5 lf Tryz.f393
theorem aGY:aG a! aH 393 avZ:=bI aO (aS avM aY) Tryz.func393 kR
def aGc:FuncId->Option Fun:=λf=>match b! f 196 with|true=>some amD|false=>match b! f 393 with|true=>some avZ|false=>none
def aFg:bV:=λid=>none
def awc:Fun:=dL a! aH (λ_=>true) aGc aFg lf Tryz.f326
theorem aG8:aG a! aH 326 awc:=bI aO (aS avN (aS aGY aY)) Tryz.func326 kR
def aI8:FuncId->Option Fun:=λf=>none
def aIJ:bV:=λid=>none
def aAw:Fun:=dL a! aH (λ_=>true) aI8 aIJ lf Tryz.f93
theorem aJF:aG a! aH 93 aAw:=bI aO aY Tryz.func93 kR
def aI4:FuncId->Option Fun:=λf=>none
def aIF:bV:=λid=>match b! id 18 with|true=>some ([0,1,3,7,15,3,35,99,255,511],[(0,.pure),(1,.pure),(5,.pure),(6,.read 0),(7,.heavy),(2,.pure),(3,.pure),(4,.read 1),(8,.pure),(9,.pure)])|false=>match b! id 20 with|true=>some ([0,0,2,0,8,24,0,64,192,504,0,1024,3072,8184,16376,32760,65528,131071],[(3,.pure),(4,.read 0),(5,.heavy),(6,.pure),(7,.pure),(8,.read 1),(9,.heavy),(10,.pure),(11,.pure),(12,.read 2),(13,.heavy),(0,.pure),(1,.pure),(2,.pure),(14,.pure),(15,.pure),(16,.alloc),(17,.heavy)])|false=>match b! id 22 with|true=>some ([0,1,3,7,0,16,48,112,240,15,1023],[(0,.pure),(1,.pure),(2,.pure),(3,.read 0),(4,.pure),(5,.pure),(6,.pure),(7,.read 0),(8,.pure),(9,.pure),(10,.pure)])|false=>none
def aAu:Fun:=dL a! aH (λ_=>true) aI4 aIF lf Tryz.f97
theorem aJD:aG a! aH 97 aAu:=bI aO aY Tryz.func97 kR
def aFV:FuncId->Option Fun:=λf=>none
def aEZ:bV:=λid=>match b! id 4 with|true=>some ([0,0,3,7,15,15,15,111,239,15,15,1039,3599,7695,16383,32767,65535],[(0,.pure),(1,.pure),(2,.pure),(3,.pure),(4,.pure),(5,.pure),(6,.pure),(7,.pure),(8,.read 0),(9,.pure),(10,.pure),(11,.pure),(12,.pure),(13,.read 0),(14,.heavy),(15,.pure),(16,.pure)])|false=>match b! id 6 with|true=>some ([0,0,0,0,8,0,0,64,224,480,0,0,3072,7168,16355,32739,65535,131071],[(0,.pure),(1,.pure),(5,.pure),(6,.pure),(7,.pure),(8,.pure),(9,.read 0),(10,.pure),(11,.pure),(12,.pure),(13,.read 0),(14,.pure),(15,.heavy),(2,.pure),(3,.pure),(4,.pure),(16,.pure),(17,.heavy)])|false=>none
def avS:Fun:=dL a! aH (λ_=>true) aFV aEZ lf Tryz.f502
theorem aGP:aG a! aH 502 avS:=bI aO aY Tryz.func502 kR
def aFW:FuncId->Option Fun:=λf=>match b! f 502 with|true=>some avS|false=>none
def aE0:bV:=λid=>match b! id 17 with|true=>some ([0,1,3,7,7,7,39,119,247,7,7,1543,3591,8191,16383,32767,65535],[(0,.pure),(1,.pure),(2,.pure),(3,.pure),(4,.pure),(5,.pure),(6,.pure),(7,.pure),(8,.read 0),(9,.pure),(10,.pure),(11,.pure),(12,.read 0),(13,.heavy),(14,.pure),(15,.pure),(16,.pure)])|false=>none
def avT:Fun:=dL a! aH (λ_=>true) aFW aE0 lf Tryz.f460
theorem aGQ:aG a! aH 460 avT:=bI aO (aS aGP aY) Tryz.func460 kR
def aFZ:FuncId->Option Fun:=λf=>match b! f 165 with|true=>some awC|false=>match b! f 460 with|true=>some avT|false=>none
def aE3:bV:=λid=>none
def avX:Fun:=dL a! aH (λ_=>true) aFZ aE3 lf Tryz.f395
theorem aGW:aG a! aH 395 avX:=bI aO (aS aHy (aS aGQ aY)) Tryz.func395 kR
def aGb:FuncId->Option Fun:=λf=>match b! f 394 with|true=>some avY|false=>match b! f 395 with|true=>some avX|false=>none
def aFf:bV:=λid=>match b! id 8 with|true=>some ([0,1,3,7,15,31,7,7,135,455,967,1991,4095,8191],[(0,.pure),(1,.pure),(2,.pure),(3,.pure),(4,.read 0),(5,.pure),(6,.pure),(7,.pure),(8,.pure),(9,.pure),(10,.pure),(11,.read 0),(12,.pure),(13,.pure)])|false=>match b! id 9 with|true=>some ([0,0,2,0,0,16,56,120,248,0,512,2040,4095,8191,16383],[(0,.pure),(1,.pure),(2,.pure),(3,.pure),(4,.pure),(5,.pure),(6,.pure),(7,.pure),(8,.read 0),(9,.pure),(10,.read 0),(11,.pure),(12,.pure),(13,.pure),(14,.heavy)])|false=>none
def av9:Fun:=dL a! aH (λ_=>true) aGb aFf lf Tryz.f327
theorem aG7:aG a! aH 327 av9:=bI aO (aS aGX (aS aGW aY)) Tryz.func327 kR
def aGt:FuncId->Option Fun:=λf=>match b! f 325 with|true=>some awd|false=>match b! f 326 with|true=>some awc|false=>match b! f 327 with|true=>some av9|false=>none
def aFx:bV:=λid=>none
def Wq:Fun:=dL a! aH (λ_=>true) aGt aFx lf Tryz.f224
theorem aHm:aG a! aH 224 Wq:=bI aO (aS aG9 (aS aG8 (aS aG7 aY))) Tryz.func224 kR
def awF:Fun:=KX
theorem aHD:aG a! aH 108 awF:=acU Tryz.func108 kR kR kR kR
def aJe:FuncId->Option Fun:=λf=>match b! f 108 with|true=>some awF|false=>none
def aIP:bV:=λid=>none
def aAC:Fun:=dL a! aH (λ_=>true) aJe aIP lf Tryz.f56
theorem aJL:aG a! aH 56 aAC:=bI aO (aS aHD aY) Tryz.func56 kR
def aJo:FuncId->Option Fun:=λf=>match b! f 54 with|true=>some arI|false=>match b! f 55 with|true=>some aAD|false=>match b! f 56 with|true=>some aAC|false=>none
def aIZ:bV:=λid=>none
def ajW:Fun:=dL a! aH (λ_=>true) aJo aIZ lf Tryz.f26
theorem aAp:aG a! aH 26 ajW:=bI aO (aS aAi (aS aJM (aS aJL aY))) Tryz.func26 kR
def awz:Fun:=Wi U
theorem aHx:aG a! aH 166 awz:=ajM Tryz.func166 kR kR kR U kR
def aJb:FuncId->Option Fun:=λf=>match b! f 166 with|true=>some awz|false=>none
def aIM:bV:=λid=>none
def aAz:Fun:=dL a! aH (λ_=>true) aJb aIM lf Tryz.f84
theorem aJI:aG a! aH 84 aAz:=bI aO (aS aHx aY) Tryz.func84 kR
def aJn:FuncId->Option Fun:=λf=>none
def aIY:bV:=λid=>none
def ajV:Fun:=dL a! aH (λ_=>true) aJn aIY lf Tryz.f27
theorem aAo:aG a! aH 27 ajV:=bI aO aY Tryz.func27 kR
def aJm:FuncId->Option Fun:=λf=>none
def aIX:bV:=λid=>none
def ajU:Fun:=dL a! aH (λ_=>true) aJm aIX lf Tryz.f28
theorem aAn:aG a! aH 28 ajU:=bI aO aY Tryz.func28 kR
def aJl:FuncId->Option Fun:=λf=>none
def aIW:bV:=λid=>none
def aAF:Fun:=dL a! aH (λ_=>true) aJl aIW lf Tryz.f29
theorem aJT:aG a! aH 29 aAF:=bI aO aY Tryz.func29 kR
def aJk:FuncId->Option Fun:=λf=>none
def aIV:bV:=λid=>none
def aAE:Fun:=dL a! aH (λ_=>true) aJk aIV lf Tryz.f30
theorem aJS:aG a! aH 30 aAE:=bI aO aY Tryz.func30 kR
def aI9:FuncId->Option Fun:=λf=>none
def aIK:bV:=λid=>none
def aAx:Fun:=dL a! aH (λ_=>true) aI9 aIK lf Tryz.f92
theorem aJG:aG a! aH 92 aAx:=bI aO aY Tryz.func92 kR
def aJa:FuncId->Option Fun:=λf=>match b! f 170 with|true=>some awy|false=>match b! f 171 with|true=>some awx|false=>match b! f 172 with|true=>some aww|false=>match b! f 92 with|true=>some aAx|false=>none
def aIL:bV:=λid=>match b! id 5 with|true=>some ([0,1,3,7,0,16,63,0,128,384,896,2047,4095,8191,8191,16383,65535],[(0,.pure),(1,.pure),(2,.pure),(3,.read 0),(4,.pure),(5,.alloc),(6,.heavy),(7,.pure),(8,.pure),(9,.pure),(10,.read 1),(11,.heavy),(12,.pure),(13,.pure),(14,.pure),(15,.pure),(16,.pure)])|false=>match b! id 10 with|true=>some ([0,0,2,6,14,0,32,96,224,510,1023],[(0,.pure),(1,.pure),(2,.pure),(3,.pure),(4,.read 0),(5,.pure),(6,.pure),(7,.pure),(8,.read 0),(9,.pure),(10,.pure)])|false=>none
def aAy:Fun:=dL a! aH (λ_=>true) aJa aIL lf Tryz.f91
theorem aJH:aG a! aH 91 aAy:=bI aO (aS aHw (aS aHv (aS aHu (aS aJG aY)))) Tryz.func91 kR
def aJi:FuncId->Option Fun:=λf=>match b! f 91 with|true=>some aAy|false=>none
def aIT:bV:=λid=>match b! id 10 with|true=>some ([0,1,3,7,0,16,48,112,240,511,1023],[(0,.pure),(1,.pure),(2,.pure),(3,.read 0),(4,.pure),(5,.pure),(6,.pure),(7,.read 0),(8,.pure),(9,.pure),(10,.pure)])|false=>none
def Wl:Fun:=dL a! aH (λ_=>true) aJi aIT lf Tryz.f41
theorem ajO:aG a! aH 41 Wl:=bI aO (aS aJH aY) Tryz.func41 kR
def aJd:FuncId->Option Fun:=λf=>none
def aIO:bV:=λid=>none
def aAB:Fun:=dL a! aH (λ_=>true) aJd aIO lf Tryz.f58
theorem aJK:aG a! aH 58 aAB:=bI aO aY Tryz.func58 kR
def aI7:FuncId->Option Fun:=λf=>match b! f 58 with|true=>some aAB|false=>none
def aII:bV:=λid=>none
def aAv:Fun:=dL a! aH (λ_=>true) aI7 aII lf Tryz.f94
theorem aJE:aG a! aH 94 aAv:=bI aO (aS aJK aY) Tryz.func94 kR
def aJh:FuncId->Option Fun:=λf=>match b! f 84 with|true=>some aAz|false=>match b! f 93 with|true=>some aAw|false=>match b! f 94 with|true=>some aAv|false=>match b! f 95 with|true=>some ajR|false=>match b! f 96 with|true=>some ajQ|false=>match b! f 97 with|true=>some aAu|false=>match b! f 98 with|true=>some aAt|false=>match b! f 99 with|true=>some ajP|false=>none
def aIS:bV:=λid=>match b! id 16 with|true=>some ([0,1,3,0,8,24,56,0,0,256,768,2040,4095],[(3,.pure),(4,.pure),(5,.pure),(6,.read 0),(7,.pure),(8,.pure),(9,.read 0),(10,.pure),(11,.heavy),(0,.pure),(1,.pure),(2,.pure),(12,.heavy)])|false=>match b! id 20 with|true=>some ([0,1,3,7,0,16,48,15,255],[(0,.pure),(1,.pure),(2,.pure),(3,.heavy),(4,.pure),(5,.read 1),(6,.pure),(7,.pure),(8,.pure)])|false=>none
def ajS:Fun:=dL a! aH (λ_=>true) aJh aIS lf Tryz.f42
theorem aAk:aG a! aH 42 ajS:=bI aO (aS aJI (aS aJF (aS aJE (aS arH (aS arG (aS aJD (aS aJC (aS arF aY)))))))) Tryz.func42 kR
def aJp:FuncId->Option Fun:=λf=>match b! f 40 with|true=>some arN|false=>match b! f 41 with|true=>some Wl|false=>match b! f 42 with|true=>some ajS|false=>none
def aI1:bV:=λid=>none
def ajX:Fun:=dL a! aH (λ_=>true) aJp aI1 lf Tryz.f13
theorem aAq:aG a! aH 13 ajX:=bI aO (aS aAl (aS ajO (aS aAk aY))) Tryz.func13 kR
def aKz:FuncId->Option Fun:=λf=>match b! f 13 with|true=>some ajX|false=>match b! f 26 with|true=>some ajW|false=>match b! f 27 with|true=>some ajV|false=>match b! f 28 with|true=>some ajU|false=>match b! f 29 with|true=>some aAF|false=>match b! f 30 with|true=>some aAE|false=>none
def aKy:bV:=λid=>none
def ays:Fun:=dL a! aH (λ_=>true) aKz aKy lf Tryz.f9
theorem aKA:aG a! aH 9 ays:=bI aO (aS aAq (aS aAp (aS aAo (aS aAn (aS aJT (aS aJS aY)))))) Tryz.func9 kR
theorem aya:((e! 100).all λn=>FM aH aH [] [] (H (iq n)) (amF [Y U (n:Int)] (mkO aH [])))=true:=kR
def arR:Fun:=DC amv amF
theorem aC6:aG a! aH 126 arR:=zo aHB λargs r e=>by
 obtain⟨n,a,rfl,rfl⟩:=avG e;exact⟨rfl,d!.1 aya n (c!.2 a)⟩
theorem azE:((e! 100).all λn=>FM aH aH [] [] (H (iq n)) (arQ [Y U (n:Int)] (mkO aH [])))=true:=kR
def awD:Fun:=DC amv arQ
theorem aHz:aG a! aH 14 awD:=zo aJU λargs r e=>by
 obtain⟨n,a,rfl,rfl⟩:=avG e;exact⟨rfl,d!.1 azE n (c!.2 a)⟩
theorem aD4:FM aH aH [] [] (.tuple (.cons (H [73,78,66,79,88]) (.cons (Y U 0) .nil))) (amG [H [73,78,66,79,88]] (mkO aH []))=true:=kR
def arS:Fun:=DC (amu [73,78,66,79,88] (.tuple (.cons (H [73,78,66,79,88]) (.cons (Y U 0) .nil)))) amG
theorem aC7:aG a! aH 120 arS:=zo aHC λargs r e=>by
 obtain⟨rfl,rfl⟩:=avF e;exact⟨rfl,aD4⟩
theorem aD5:FM aH aH [] [] (H []) (amI [H [],H [105,110,45,114,101,112,108,121,45,116,111]] (mkO aH []))=true:=kR
def arT:Fun:=DC (aeV [] [105,110,45,114,101,112,108,121,45,116,111] (H [])) amI
theorem aC8:aG a! aH 104 arT:=zo aHG λargs r e=>by
 obtain⟨rfl,rfl⟩:=arB e;exact⟨rfl,aD5⟩
def aCH(r:V)(args:List V):Option V:=match args with
 | []=>some r
 |_=>none
theorem aES{q:V}{args:List V}{r:V}(e:aCH q args=some r):args= []/\r=q:=by
 unfold aCH at e;split at e
 ·cases e;exact⟨rfl,rfl⟩
 ·cases e
theorem aKe:FM aH aH [] [] (K true) (ays [] (mkO aH []))=true:=kR
def aAs:Fun:=DC (aCH (K true)) ays
theorem aJB:aG a! aH 9 aAs:=zo aKA λargs r e=>by
 obtain⟨rfl,rfl⟩:=aES e;exact⟨rfl,aKe⟩
def rdV(G:Nat)(a b:Int):V×List Ob:=(.tuple (.cons (.slice (Pos.of G) 0 1 (.kn 1)) (.cons (Y U 0) .nil)),[O (N 98 false) [Y U a,Y U b]])
def OQ(args:List V):Option (V×List Ob):=match args with
 |H s:: Y U n:: []=>if 1<=n/\n<=20 then(if s= [49] then some (rdV aH 1 1) else if s= [49,58,42] then some (rdV aH 1 n) else if n<=9/\s= [48+n.toNat] then some (rdV aH n n) else none) else none
 |_=>none
def aev:List Pos:= [Pos.of 13]
theorem aD2:((e! 20).all λn=>apw aH Wq aev [H [49],Y U ((n:Int)+1)] (rdV aH 1 1))=true:=kR
theorem aD1:((e! 20).all λn=>apw aH Wq aev [H [49,58,42],Y U ((n:Int)+1)] (rdV aH 1 ((n:Int)+1)))=true:=kR
theorem aD0:((e! 9).all λn=>apw aH Wq aev [H [48+(n+1)],Y U ((n:Int)+1)] (rdV aH ((n:Int)+1) ((n:Int)+1)))=true:=kR
theorem aCF{args:List V}{r:V×List Ob}(e:OQ args=some r):∃n:Nat,n<20/\((n<9/\args= [H [48+(n+1)],Y U ((n:Int)+1)]/\r=rdV aH ((n:Int)+1) ((n:Int)+1))\/(args= [H [49],Y U ((n:Int)+1)]/\r=rdV aH 1 1)\/(args= [H [49,58,42],Y U ((n:Int)+1)]/\r=rdV aH 1 ((n:Int)+1))):=by
 unfold OQ at e;split at e
 ·rename_i s n;split at e
  ·rename_i c;have b:(((n - 1).toNat:Int)+1)=n:=by omega
   refine⟨(n - 1).toNat,by omega,?_⟩;rw[b];split at e
   ·rename_i a;cases e;exact Or.inr (Or.inl ⟨by rw[a],rfl⟩)
   ·split at e
    ·rename_i a;cases e;exact Or.inr (Or.inr ⟨by rw[a],rfl⟩)
    ·split at e
     ·rename_i a;cases e;refine Or.inl ⟨by omega,?_,rfl⟩;rw[a.2,show n.toNat=(n - 1).toNat+1 by omega]
     ·cases e
  ·cases e
 ·cases e
def arP:Fun:=axf aH OQ Wq
theorem aC5:aG a! aH 224 arP:=auE (l:=aev) aHm λargs r e=>by
 obtain⟨n,b,h|h|h⟩:=aCF e
 ·obtain⟨a,rfl,rfl⟩:=h;exact d!.1 aD0 n (c!.2 a)
 ·obtain⟨rfl,rfl⟩:=h;exact d!.1 aD2 n (c!.2 b)
 ·obtain⟨rfl,rfl⟩:=h;exact d!.1 aD1 n (c!.2 b)
def aBP(n:Nat):V:=.tuple (.cons (Y U (n:Int)) (.cons (K true) .nil))
def aCG(args:List V):Option V:=match args with
 |H s:: []=>((e! 20).find? λn=>decide (iq n=s)).map aBP
 |_=>none
theorem aDZ:((e! 20).all λn=>FM aH aH [] [] (aBP n) (aeY [H (iq n)] (mkO aH [])))=true:=kR
theorem aER{args:List V}{r:V}(e:aCG args=some r):∃n:Nat,n<20/\args= [H (iq n)]/\r=aBP n:=by
 unfold aCG at e;split at e
 ·rename_i s;cases a:(e! 20).find? λn=>decide (iq n=s) with
  |none=>rw[a]at e;cases e
  |some n=>
   rw[a]at e;cases e;have b:=List.find?_some a;exact⟨n,c!.1 (List.mem_of_find?_eq_some a),by rw[show iq n=s from of_decide_eq_true b],rfl⟩
 ·cases e
def aDb:Fun:=DC aCG aeY
theorem aLe:aG a! aH 233 aDb:=zo avM λargs r e=>by
 obtain⟨n,a,rfl,rfl⟩:=aER e;exact⟨rfl,d!.1 aDZ n (c!.2 a)⟩
theorem aBF:FM aH aH [] [] (.tuple (.cons (H [45,102,108,97,103,115]) (.cons (K true) .nil))) (aeX [H [45,102,108,97,103,115,46,115,105,108,101,110,116],H [46,115,105,108,101,110,116]] (mkO aH []))=true:=kR
def aAG:Fun:=DC (aeV [45,102,108,97,103,115,46,115,105,108,101,110,116] [46,115,105,108,101,110,116] (.tuple (.cons (H [45,102,108,97,103,115]) (.cons (K true) .nil)))) aeX
theorem aKL:aG a! aH 251 aAG:=zo avL λargs r e=>by
 obtain⟨rfl,rfl⟩:=arB e;exact⟨rfl,aBF⟩
theorem aD3:FM aH aH [] [] (.tuple (.cons (H [121]) (.cons (K true) .nil))) (amC [H [121]] (mkO aH []))=true:=kR
def aDc:Fun:=DC (amu [121] (.tuple (.cons (H [121]) (.cons (K true) .nil)))) amC
theorem aLf:aG a! aH 212 aDc:=zo aHn λargs r e=>by
 obtain⟨rfl,rfl⟩:=avF e;exact⟨rfl,aD3⟩
end Go.Proofs.Ik
