/- Part of the value machine, or of a walk by it: lemmas that the claim's last text uses. No conditions. -/
import Derived.Test.YtpgppmioigacoaaGreatDoorChecked
import Derived.KernelRfl
import Derived.Test.YtpgppmioigacoaaGreatDoorSlAI
import Derived.Test.YtpgppmioigacoaaGreatDoorSlAJ
import Derived.Test.YtpgppmioigacoaaGreatDoorSlAK
import Derived.Test.YtpgppmioigacoaaGreatDoorSlAM
set_option linter.unusedVariables false
set_option linter.unusedSimpArgs false
set_option linter.unnecessarySimpa false
noncomputable section
namespace Go.Vm
def eP(n:Nat):List Nat:=match Nat.blt n 10 with|true=> [48+n]|false=> [48+n / 10,48+n % 10]
def aqr(args:List V):Option V:=match args with
 | .int .i64 n:: []=>if 0≤n∧n<100 then some (.str (eP n.toNat)) else none
 |_=>none
def QC(s:List Nat)(r:V)(args:List V):Option V:=match args with
 | .str t:: []=>if t=s then some r else none
 |_=>none
def atT(s s':List Nat)(r:V)(args:List V):Option V:=match args with
 | .str t:: .str t':: []=>if t=s∧t'=s' then some r else none
 |_=>none
theorem aA4{args:List V}{r:V}(e:aqr args=some r):∃n:Nat,n<100∧args= [.int .i64 (n:Int)]∧r=.str (eP n):=by
 unfold aqr at e
 split at e
 ·split at e
  ·rename_i n hn
   cases e
   exact⟨n.toNat,by omega,by rw [Int.toNat_of_nonneg hn.1],rfl⟩
  ·cases e
 ·cases e
theorem Zr{s:List Nat}{q:V}{args:List V}{r:V}(e:QC s q args=some r):args= [.str s]∧r=q:=by
 unfold QC at e
 split at e
 ·split at e
  ·rename_i h;cases e;exact⟨by rw [h],rfl⟩
  ·cases e
 ·cases e
theorem awf{s s':List Nat}{q:V}{args:List V}{r:V}(e:atT s s' q args=some r):args= [.str s,.str s']∧r=q:=by
 unfold atT at e
 split at e
 ·split at e
  ·rename_i h;cases e;exact⟨by rw [h.1,h.2],rfl⟩
  ·cases e
 ·cases e
theorem aqp{n:Nat}(h:n<100):aqr [.int .i64 (n:Int)]=some (.str (eP n)):=by
 unfold aqr
 simp only []
 rw [if_pos (by omega),Int.toNat_natCast]
theorem ah0(s:List Nat)(r:V):QC s r [.str s]=some r:=by
 unfold QC
 exact if_pos rfl
theorem AX{A:List V→Option V}{F:Fun}{args:List V}{r:V}(e:A args=some r)(h:Hp):tH A F args h=.ok r h:=by
 unfold tH
 rw [e]
def aHe(G:Nat)(A:List V→Option (V×List Ob))(F:Fun):Fun:=fun args h=>match A args with
 |some r=>aDi G [] r.2 r.1 [] h
 |none=>F args h
def atY(G:Nat)(F:Fun)(l:List Pos)(args:List V)(r:V×List Ob):Bool:=
 (aCB G 0 args [] [] r.2 r.1&&(eqL args (apG (tau G []) args)&&Nat.beq (aDa (apZ G args args [])) 0))&&D6 G G (r.2.map some) l r.1 (F args (mkO G []))
theorem aJw{P:Program}{G:Nat}{f:FuncId}{F:Fun}{A:List V→Option (V×List Ob)}{l:List Pos}(hF:aJ P G f F)(hA:∀args r,A args=some r→atY G F l args r=true):aJ P G f (aHe G A F):=by
 intro args h r h' M w cargs e hr ha
 unfold aHe at e
 split at e
 ·rename_i q hq
  have hb:=hA _ _ hq
  unfold atY at hb
  simp only [Bool.and_eq_true] at hb
  obtain⟨⟨b1,b2,b3⟩,b4⟩:=hb
  have hm:apZ G args args []= []:=by
   have b3:=Nat.eq_of_beq_eq_true b3
   cases hl:apZ G args args [] with
   |nil=>rfl
   |cons a l=>rw [hl] at b3;cases b3
  have hn:(mkO G []).next.nat=G:=by rw [UF];rfl
  have hD:=Does.comp hF hn b4
  have hc:=aJZ (ks:= []) (cs:= []) (news:=q.2) (rc:=q.1) (n:=0) (a0:=args) hF b1 (by simpa [patch] using hD)
  refine hc args h r h' M w cargs ?_ hr ha
  unfold aHP
  have hh:avA G args [] args h=some []:=by
   unfold avA
   rw [hm]
   dsimp only
   rw [b2]
   simp only [aC4,okC,b2,aeK,ae0,auV,Bool.and_self,if_true]
  rw [hh]
  exact e
 ·exact hF args h r h' M w cargs e hr ha
end Go.Vm
namespace Go.Proofs.Ik
open Go Go.Proofs Go.Vm
set_option maxRecDepth 100000
set_option maxHeartbeats 4000000
theorem aP:Tryz.prog.follows .mixedOrders=true:=Tryz.checked.mixed
def aN:Nat:=7
def aOo:cO:=fun id=>match Nat.beq id 3 with|true=>some ([0,1,3,0,8,24,56,120,248,511,1023],[(0,.pure),(1,.pure),(2,.heavy),(3,.pure),(4,.pure),(5,.pure),(6,.pure),(7,.alloc),(8,.own 7),(9,.pure),(10,.pure)])|false=>none
def aFE(e:FuncId→Option Fun):FuncId→Option Fun:=fun f=>match Nat.beq f 14 with|true=>some (dU Tryz.prog aN (fun _=>true) (fun f=>e f) aOo lf Tryz.f14)|false=>none
theorem aKD(e:FuncId→Option Fun)(he:∀f F,e f=some F→aJ Tryz.prog aN f F):∀f F,aFE e f=some F→aJ Tryz.prog aN f F:=aS (bV aP he Tryz.func14 (by kernel_rfl)) (bC)
def axs:Fun:=aCR (levels (fun _=>none) aFE 40) 14
theorem aPh:aJ Tryz.prog aN 14 axs:=aHB (arO bC aKD 40) 14
def aOq:FuncId→Option Fun:=fun f=>none
def aN1:cO:=fun id=>match Nat.beq id 1 with|true=>some ([0,1,3,7,15,0,32,96,224,480,1023,2047],[(0,.pure),(1,.pure),(2,.pure),(3,.read 0),(4,.heavy),(5,.pure),(6,.pure),(7,.pure),(8,.read 1),(9,.pure),(10,.heavy),(11,.pure)])|false=>none
def anF:Fun:=dU Tryz.prog aN (fun _=>true) aOq aN1 lf Tryz.f99
theorem axg:aJ Tryz.prog aN 99 anF:=bV aP bC Tryz.func99 (by kernel_rfl)
def aOH:FuncId→Option Fun:=fun f=>none
def aOi:cO:=fun id=>none
def aGb:Fun:=dU Tryz.prog aN (fun _=>true) aOH aOi lf Tryz.f40
theorem aO7:aJ Tryz.prog aN 40 aGb:=bV aP bC Tryz.func40 (by kernel_rfl)
def aL0:FuncId→Option Fun:=fun f=>none
def aLa:cO:=fun id=>none
def aBJ:Fun:=dU Tryz.prog aN (fun _=>true) aL0 aLa lf Tryz.f269
theorem aMR:aJ Tryz.prog aN 269 aBJ:=bV aP bC Tryz.func269 (by kernel_rfl)
def aMg:FuncId→Option Fun:=fun f=>match Nat.beq f 269 with|true=>some aBJ|false=>none
def aLq:cO:=fun id=>none
def aBT:Fun:=dU Tryz.prog aN (fun _=>true) aMg aLq lf Tryz.f165
theorem aM3:aJ Tryz.prog aN 165 aBT:=bV aP (aS aMR bC) Tryz.func165 (by kernel_rfl)
def aLX:FuncId→Option Fun:=fun f=>none
def aK7:cO:=fun id=>match Nat.beq id 1 with|true=>some ([0,1,3,7,0,16,48,112,255,511,0,1024,3072,7168,16383,32767],[(0,.pure),(1,.pure),(2,.pure),(3,.read 0),(4,.pure),(5,.pure),(6,.pure),(7,.read 0),(8,.pure),(9,.read 0),(10,.pure),(11,.pure),(12,.pure),(13,.read 0),(14,.pure),(15,.pure)])|false=>none
def Zw:Fun:=dU Tryz.prog aN (fun _=>true) aLX aK7 lf Tryz.f281
theorem ah1:aJ Tryz.prog aN 281 Zw:=bV aP bC Tryz.func281 (by kernel_rfl)
def aLI:FuncId→Option Fun:=fun f=>match Nat.beq f 281 with|true=>some Zw|false=>none
def aKR:cO:=fun id=>none
def aqw:Fun:=dU Tryz.prog aN (fun _=>true) aLI aKR lf Tryz.f367
theorem aA5:aJ Tryz.prog aN 367 aqw:=bV aP (aS ah1 bC) Tryz.func367 (by kernel_rfl)
def aLy:FuncId→Option Fun:=fun f=>match Nat.beq f 281 with|true=>some Zw|false=>none
def aKH:cO:=fun id=>match Nat.beq id 1 with|true=>some ([0,1,3,7,15,31,63,127,15,271,783,1807,3855,8191,16383,32767],[(0,.pure),(1,.heavy),(2,.pure),(3,.pure),(4,.pure),(5,.pure),(6,.pure),(7,.read 0),(8,.pure),(9,.pure),(10,.pure),(11,.read 0),(12,.pure),(13,.pure),(14,.pure),(15,.pure)])|false=>none
def aBj:Fun:=dU Tryz.prog aN (fun _=>true) aLy aKH lf Tryz.f425
theorem aMp:aJ Tryz.prog aN 425 aBj:=bV aP (aS ah1 bC) Tryz.func425 (by kernel_rfl)
def aBG:Fun:=atF
theorem aMO:aJ Tryz.prog aN 282 aBG:=aur Tryz.func282 (by kernel_rfl) (by kernel_rfl) (by kernel_rfl) (by kernel_rfl)
def aMc:FuncId→Option Fun:=fun f=>match Nat.beq f 282 with|true=>some aBG|false=>none
def aLm:cO:=fun id=>none
def ah4:Fun:=dU Tryz.prog aN (fun _=>true) aMc aLm lf Tryz.f173
theorem aqt:aJ Tryz.prog aN 173 ah4:=bV aP (aS aMO bC) Tryz.func173 (by kernel_rfl)
def aL6:FuncId→Option Fun:=fun f=>match Nat.beq f 173 with|true=>some ah4|false=>none
def aLg:cO:=fun id=>none
def aBL:Fun:=dU Tryz.prog aN (fun _=>true) aL6 aLg lf Tryz.f205
theorem aMV:aJ Tryz.prog aN 205 aBL:=bV aP (aS aqt bC) Tryz.func205 (by kernel_rfl)
def aOt:FuncId→Option Fun:=fun f=>match Nat.beq f 173 with|true=>some ah4|false=>none
def aN4:cO:=fun id=>none
def anG:Fun:=dU Tryz.prog aN (fun _=>true) aOt aN4 lf Tryz.f96
theorem axh:aJ Tryz.prog aN 96 anG:=bV aP (aS aqt bC) Tryz.func96 (by kernel_rfl)
def aBF:Fun:=avx
theorem aMN:aJ Tryz.prog aN 289 aBF:=ap5 Tryz.func289 (by kernel_rfl) (by kernel_rfl) (by kernel_rfl) (by kernel_rfl)
def aMb:FuncId→Option Fun:=fun f=>match Nat.beq f 289 with|true=>some aBF|false=>none
def aLl:cO:=fun id=>none
def aqB:Fun:=dU Tryz.prog aN (fun _=>true) aMb aLl lf Tryz.f184
theorem aBb:aJ Tryz.prog aN 184 aqB:=bV aP (aS aMN bC) Tryz.func184 (by kernel_rfl)
def aMk:FuncId→Option Fun:=fun f=>match Nat.beq f 184 with|true=>some aqB|false=>none
def aLu:cO:=fun id=>none
def aqE:Fun:=dU Tryz.prog aN (fun _=>true) aMk aLu lf Tryz.f107
theorem aBd:aJ Tryz.prog aN 107 aqE:=bV aP (aS aBb bC) Tryz.func107 (by kernel_rfl)
def aLJ:FuncId→Option Fun:=fun f=>match Nat.beq f 107 with|true=>some aqE|false=>match Nat.beq f 281 with|true=>some Zw|false=>match Nat.beq f 367 with|true=>some aqw|false=>match Nat.beq f 425 with|true=>some aBj|false=>none
def aKS:cO:=fun id=>match Nat.beq id 2 with|true=>some ([0,1,3,7,0,16,48,112,255,511,1023,0,4095],[(0,.pure),(1,.pure),(2,.pure),(3,.read 0),(4,.pure),(5,.pure),(6,.pure),(7,.read 0),(8,.pure),(9,.read 0),(10,.pure),(11,.alloc),(12,.heavy)])|false=>match Nat.beq id 17 with|true=>some ([0,0,2,6,14,30,31,127],[(1,.pure),(2,.pure),(3,.pure),(4,.heavy),(0,.read 1),(6,.heavy),(5,.pure),(7,.pure)])|false=>none
def aBt:Fun:=dU Tryz.prog aN (fun _=>true) aLJ aKS lf Tryz.f366
theorem aMB:aJ Tryz.prog aN 366 aBt:=bV aP (aS aBd (aS ah1 (aS aA5 (aS aMp bC)))) Tryz.func366 (by kernel_rfl)
def aLY:FuncId→Option Fun:=fun f=>match Nat.beq f 366 with|true=>some aBt|false=>match Nat.beq f 367 with|true=>some aqw|false=>none
def aK8:cO:=fun id=>none
def aBH:Fun:=dU Tryz.prog aN (fun _=>true) aLY aK8 lf Tryz.f280
theorem aMP:aJ Tryz.prog aN 280 aBH:=bV aP (aS aMB (aS aA5 bC)) Tryz.func280 (by kernel_rfl)
def aMd:FuncId→Option Fun:=fun f=>match Nat.beq f 280 with|true=>some aBH|false=>match Nat.beq f 281 with|true=>some Zw|false=>none
def aLn:cO:=fun id=>match Nat.beq id 10 with|true=>some ([0,0,2,6,14,30,62,126,254,510,1022,2046,254,4350,16382,32766,255,131071],[(1,.pure),(2,.pure),(3,.pure),(4,.heavy),(0,.pure),(5,.pure),(6,.pure),(7,.pure),(8,.pure),(9,.pure),(10,.pure),(11,.read 0),(12,.pure),(13,.pure),(14,.pure),(15,.pure),(16,.pure),(17,.pure)])|false=>none
def aBP:Fun:=dU Tryz.prog aN (fun _=>true) aMd aLn lf Tryz.f172
theorem aMZ:aJ Tryz.prog aN 172 aBP:=bV aP (aS aMP (aS ah1 bC)) Tryz.func172 (by kernel_rfl)
def aLG:FuncId→Option Fun:=fun f=>match Nat.beq f 184 with|true=>some aqB|false=>none
def aKP:cO:=fun id=>none
def aBs:Fun:=dU Tryz.prog aN (fun _=>true) aLG aKP lf Tryz.f376
theorem aMy:aJ Tryz.prog aN 376 aBs:=bV aP (aS aBb bC) Tryz.func376 (by kernel_rfl)
def aLU:FuncId→Option Fun:=fun f=>match Nat.beq f 376 with|true=>some aBs|false=>none
def aK4:cO:=fun id=>match Nat.beq id 3 with|true=>some ([0,0,3,0,0,0,32,112,248,7,1023,2047],[(0,.pure),(1,.pure),(2,.pure),(3,.pure),(4,.pure),(5,.pure),(6,.pure),(7,.pure),(8,.pure),(9,.pure),(10,.pure),(11,.pure)])|false=>none
def aBC:Fun:=dU Tryz.prog aN (fun _=>true) aLU aK4 lf Tryz.f294
theorem aMK:aJ Tryz.prog aN 294 aBC:=bV aP (aS aMy bC) Tryz.func294 (by kernel_rfl)
def aL9:FuncId→Option Fun:=fun f=>match Nat.beq f 294 with|true=>some aBC|false=>none
def aLj:cO:=fun id=>none
def aqA:Fun:=dU Tryz.prog aN (fun _=>true) aL9 aLj lf Tryz.f196
theorem aBa:aJ Tryz.prog aN 196 aqA:=bV aP (aS aMK bC) Tryz.func196 (by kernel_rfl)
def aOE:FuncId→Option Fun:=fun f=>match Nat.beq f 107 with|true=>some aqE|false=>none
def aOf:cO:=fun id=>none
def axo:Fun:=dU Tryz.prog aN (fun _=>true) aOE aOf lf Tryz.f54
theorem aFL:aJ Tryz.prog aN 54 axo:=bV aP (aS aBd bC) Tryz.func54 (by kernel_rfl)
def aLW:FuncId→Option Fun:=fun f=>none
def aK6:cO:=fun id=>none
def aBE:Fun:=dU Tryz.prog aN (fun _=>true) aLW aK6 lf Tryz.f291
theorem aMM:aJ Tryz.prog aN 291 aBE:=bV aP bC Tryz.func291 (by kernel_rfl)
def aMa:FuncId→Option Fun:=fun f=>match Nat.beq f 291 with|true=>some aBE|false=>none
def aLk:cO:=fun id=>none
def aBO:Fun:=dU Tryz.prog aN (fun _=>true) aMa aLk lf Tryz.f186
theorem aMY:aJ Tryz.prog aN 186 aBO:=bV aP (aS aMM bC) Tryz.func186 (by kernel_rfl)
def aLS:FuncId→Option Fun:=fun f=>none
def aK2:cO:=fun id=>none
def aBA:Fun:=dU Tryz.prog aN (fun _=>true) aLS aK2 lf Tryz.f297
theorem aMI:aJ Tryz.prog aN 297 aBA:=bV aP bC Tryz.func297 (by kernel_rfl)
def aOu:FuncId→Option Fun:=fun f=>none
def aN5:cO:=fun id=>none
def anH:Fun:=dU Tryz.prog aN (fun _=>true) aOu aN5 lf Tryz.f95
theorem axi:aJ Tryz.prog aN 95 anH:=bV aP bC Tryz.func95 (by kernel_rfl)
def aOA:FuncId→Option Fun:=fun f=>match Nat.beq f 54 with|true=>some axo|false=>match Nat.beq f 95 with|true=>some anH|false=>none
def aOb:cO:=fun id=>none
def aFY:Fun:=dU Tryz.prog aN (fun _=>true) aOA aOb lf Tryz.f80
theorem aOW:aJ Tryz.prog aN 80 aFY:=bV aP (aS aFL (aS axi bC)) Tryz.func80 (by kernel_rfl)
def aL4:FuncId→Option Fun:=fun f=>match Nat.beq f 80 with|true=>some aFY|false=>match Nat.beq f 95 with|true=>some anH|false=>none
def aLe:cO:=fun id=>none
def aqz:Fun:=dU Tryz.prog aN (fun _=>true) aL4 aLe lf Tryz.f212
theorem aMT:aJ Tryz.prog aN 212 aqz:=bV aP (aS aOW (aS axi bC)) Tryz.func212 (by kernel_rfl)
def aOD:FuncId→Option Fun:=fun f=>none
def aOe:cO:=fun id=>none
def aF1:Fun:=dU Tryz.prog aN (fun _=>true) aOD aOe lf Tryz.f55
theorem aOZ:aJ Tryz.prog aN 55 aF1:=bV aP bC Tryz.func55 (by kernel_rfl)
def aLK:FuncId→Option Fun:=fun f=>none
def aKT:cO:=fun id=>none
def aqx:Fun:=dU Tryz.prog aN (fun _=>true) aLK aKT lf Tryz.f365
theorem aA6:aJ Tryz.prog aN 365 aqx:=bV aP bC Tryz.func365 (by kernel_rfl)
def aLZ:FuncId→Option Fun:=fun f=>match Nat.beq f 365 with|true=>some aqx|false=>none
def aK9:cO:=fun id=>none
def aBI:Fun:=dU Tryz.prog aN (fun _=>true) aLZ aK9 lf Tryz.f279
theorem aMQ:aJ Tryz.prog aN 279 aBI:=bV aP (aS aA6 bC) Tryz.func279 (by kernel_rfl)
def aMf:FuncId→Option Fun:=fun f=>match Nat.beq f 279 with|true=>some aBI|false=>none
def aLp:cO:=fun id=>none
def aBR:Fun:=dU Tryz.prog aN (fun _=>true) aMf aLp lf Tryz.f170
theorem aM1:aJ Tryz.prog aN 170 aBR:=bV aP (aS aMQ bC) Tryz.func170 (by kernel_rfl)
def aLL:FuncId→Option Fun:=fun f=>match Nat.beq f 365 with|true=>some aqx|false=>none
def aKU:cO:=fun id=>none
def aBu:Fun:=dU Tryz.prog aN (fun _=>true) aLL aKU lf Tryz.f352
theorem aMC:aJ Tryz.prog aN 352 aBu:=bV aP (aS aA6 bC) Tryz.func352 (by kernel_rfl)
def aL1:FuncId→Option Fun:=fun f=>match Nat.beq f 352 with|true=>some aBu|false=>none
def aLb:cO:=fun id=>none
def ah2:Fun:=dU Tryz.prog aN (fun _=>true) aL1 aLb lf Tryz.f251
theorem aA8:aJ Tryz.prog aN 251 ah2:=bV aP (aS aMC bC) Tryz.func251 (by kernel_rfl)
def aMe:FuncId→Option Fun:=fun f=>match Nat.beq f 186 with|true=>some aBO|false=>match Nat.beq f 251 with|true=>some ah2|false=>none
def aLo:cO:=fun id=>none
def aBQ:Fun:=dU Tryz.prog aN (fun _=>true) aMe aLo lf Tryz.f171
theorem aM0:aJ Tryz.prog aN 171 aBQ:=bV aP (aS aMY (aS aA8 bC)) Tryz.func171 (by kernel_rfl)
def aLT:FuncId→Option Fun:=fun f=>none
def aK3:cO:=fun id=>none
def aBB:Fun:=dU Tryz.prog aN (fun _=>true) aLT aK3 lf Tryz.f295
theorem aMJ:aJ Tryz.prog aN 295 aBB:=bV aP bC Tryz.func295 (by kernel_rfl)
def aLE:FuncId→Option Fun:=fun f=>none
def aKN:cO:=fun id=>none
def aBq:Fun:=dU Tryz.prog aN (fun _=>true) aLE aKN lf Tryz.f382
theorem aMw:aJ Tryz.prog aN 382 aBq:=bV aP bC Tryz.func382 (by kernel_rfl)
def aLR:FuncId→Option Fun:=fun f=>match Nat.beq f 295 with|true=>some aBB|false=>match Nat.beq f 382 with|true=>some aBq|false=>none
def aK1:cO:=fun id=>match Nat.beq id 10 with|true=>some ([0,1,0,0,0,0,48,124,255],[(0,.pure),(1,.heavy),(2,.pure),(3,.pure),(4,.pure),(5,.pure),(6,.pure),(7,.pure),(8,.pure)])|false=>none
def aqy:Fun:=dU Tryz.prog aN (fun _=>true) aLR aK1 lf Tryz.f299
theorem aA7:aJ Tryz.prog aN 299 aqy:=bV aP (aS aMJ (aS aMw bC)) Tryz.func299 (by kernel_rfl)
def aLV:FuncId→Option Fun:=fun f=>match Nat.beq f 299 with|true=>some aqy|false=>none
def aK5:cO:=fun id=>none
def aBD:Fun:=dU Tryz.prog aN (fun _=>true) aLV aK5 lf Tryz.f292
theorem aML:aJ Tryz.prog aN 292 aBD:=bV aP (aS aA7 bC) Tryz.func292 (by kernel_rfl)
def aL8:FuncId→Option Fun:=fun f=>match Nat.beq f 205 with|true=>some aBL|false=>match Nat.beq f 292 with|true=>some aBD|false=>match Nat.beq f 297 with|true=>some aBA|false=>match Nat.beq f 299 with|true=>some aqy|false=>match Nat.beq f 99 with|true=>some anF|false=>none
def aLi:cO:=fun id=>match Nat.beq id 11 with|true=>some ([0,0,2,7,15],[(1,.pure),(2,.heavy),(0,.read 1),(3,.heavy),(4,.heavy)])|false=>none
def aBN:Fun:=dU Tryz.prog aN (fun _=>true) aL8 aLi lf Tryz.f200
theorem aMX:aJ Tryz.prog aN 200 aBN:=bV aP (aS aMV (aS aML (aS aMI (aS aA7 (aS axg bC))))) Tryz.func200 (by kernel_rfl)
def aMj:FuncId→Option Fun:=fun f=>match Nat.beq f 196 with|true=>some aqA|false=>match Nat.beq f 200 with|true=>some aBN|false=>none
def aLt:cO:=fun id=>none
def aqD:Fun:=dU Tryz.prog aN (fun _=>true) aMj aLt lf Tryz.f120
theorem aM7:aJ Tryz.prog aN 120 aqD:=bV aP (aS aBa (aS aMX bC)) Tryz.func120 (by kernel_rfl)
def aBp:Fun:=ae2 5
theorem aMv:aJ Tryz.prog aN 384 aBp:=arH (ps:=Tryz.f384.params) Tryz.func384 (by kernel_rfl) (by kernel_rfl) (by kernel_rfl) Tryz.underlying43 (by kernel_rfl)
def aLQ:FuncId→Option Fun:=fun f=>match Nat.beq f 384 with|true=>some aBp|false=>none
def aKZ:cO:=fun id=>match Nat.beq id 0 with|true=>some ([0,1,3,7,15,31,0,127,255,0,512,1536,3584,7680,16383,32767],[(0,.pure),(1,.pure),(2,.pure),(3,.read 0),(4,.heavy),(5,.pure),(6,.pure),(7,.pure),(8,.heavy),(9,.pure),(10,.pure),(11,.pure),(12,.read 2),(13,.pure),(14,.pure),(15,.pure)])|false=>none
def aBz:Fun:=dU Tryz.prog aN (fun _=>true) aLQ aKZ lf Tryz.f303
theorem aMH:aJ Tryz.prog aN 303 aBz:=bV aP (aS aMv bC) Tryz.func303 (by kernel_rfl)
def aL7:FuncId→Option Fun:=fun f=>match Nat.beq f 173 with|true=>some ah4|false=>match Nat.beq f 303 with|true=>some aBz|false=>none
def aLh:cO:=fun id=>match Nat.beq id 3 with|true=>some ([0,1,3,7,15,0,32,96,224,480,1023,0,4095],[(0,.pure),(1,.pure),(2,.pure),(3,.read 0),(4,.heavy),(5,.pure),(6,.pure),(7,.pure),(8,.read 1),(9,.pure),(10,.pure),(11,.pure),(12,.pure)])|false=>none
def aBM:Fun:=dU Tryz.prog aN (fun _=>true) aL7 aLh lf Tryz.f204
theorem aMW:aJ Tryz.prog aN 204 aBM:=bV aP (aS aqt (aS aMH bC)) Tryz.func204 (by kernel_rfl)
def aMh:FuncId→Option Fun:=fun f=>match Nat.beq f 204 with|true=>some aBM|false=>match Nat.beq f 96 with|true=>some anG|false=>match Nat.beq f 99 with|true=>some anF|false=>none
def aLr:cO:=fun id=>none
def aBV:Fun:=dU Tryz.prog aN (fun _=>true) aMh aLr lf Tryz.f128
theorem aM5:aJ Tryz.prog aN 128 aBV:=bV aP (aS aMW (aS axh (aS axg bC))) Tryz.func128 (by kernel_rfl)
def aOr:FuncId→Option Fun:=fun f=>match Nat.beq f 128 with|true=>some aBV|false=>match Nat.beq f 96 with|true=>some anG|false=>none
def aN2:cO:=fun id=>match Nat.beq id 0 with|true=>some ([0,1,3,0,8,31],[(3,.pure),(4,.heavy),(0,.pure),(1,.pure),(2,.pure),(5,.heavy)])|false=>none
def aFR:Fun:=dU Tryz.prog aN (fun _=>true) aOr aN2 lf Tryz.f98
theorem aOP:aJ Tryz.prog aN 98 aFR:=bV aP (aS aM5 (aS axh bC)) Tryz.func98 (by kernel_rfl)
def aLA:FuncId→Option Fun:=fun f=>none
def aKJ:cO:=fun id=>none
def aBl:Fun:=dU Tryz.prog aN (fun _=>true) aLA aKJ lf Tryz.f394
theorem aMr:aJ Tryz.prog aN 394 aBl:=bV aP bC Tryz.func394 (by kernel_rfl)
def aBi:Fun:=cntF
theorem aMo:aJ Tryz.prog aN 442 aBi:=aKq Tryz.func442 (by kernel_rfl) (by kernel_rfl) (by kernel_rfl) (by kernel_rfl)
def aLF:FuncId→Option Fun:=fun f=>match Nat.beq f 442 with|true=>some aBi|false=>none
def aKO:cO:=fun id=>none
def aBr:Fun:=dU Tryz.prog aN (fun _=>true) aLF aKO lf Tryz.f378
theorem aMx:aJ Tryz.prog aN 378 aBr:=bV aP (aS aMo bC) Tryz.func378 (by kernel_rfl)
def aLC:FuncId→Option Fun:=fun f=>match Nat.beq f 378 with|true=>some aBr|false=>none
def aKL:cO:=fun id=>none
def aBn:Fun:=dU Tryz.prog aN (fun _=>true) aLC aKL lf Tryz.f392
theorem aMt:aJ Tryz.prog aN 392 aBn:=bV aP (aS aMx bC) Tryz.func392 (by kernel_rfl)
def aLO:FuncId→Option Fun:=fun f=>match Nat.beq f 392 with|true=>some aBn|false=>none
def aKX:cO:=fun id=>none
def aBx:Fun:=dU Tryz.prog aN (fun _=>true) aLO aKX lf Tryz.f325
theorem aMF:aJ Tryz.prog aN 325 aBx:=bV aP (aS aMt bC) Tryz.func325 (by kernel_rfl)
def aLx:FuncId→Option Fun:=fun f=>none
def aKG:cO:=fun id=>none
def aBh:Fun:=dU Tryz.prog aN (fun _=>true) aLx aKG lf Tryz.f447
theorem aMn:aJ Tryz.prog aN 447 aBh:=bV aP bC Tryz.func447 (by kernel_rfl)
def aLD:FuncId→Option Fun:=fun f=>match Nat.beq f 447 with|true=>some aBh|false=>none
def aKM:cO:=fun id=>none
def aBo:Fun:=dU Tryz.prog aN (fun _=>true) aLD aKM lf Tryz.f388
theorem aMu:aJ Tryz.prog aN 388 aBo:=bV aP (aS aMn bC) Tryz.func388 (by kernel_rfl)
def aLP:FuncId→Option Fun:=fun f=>match Nat.beq f 388 with|true=>some aBo|false=>none
def aKY:cO:=fun id=>none
def aBy:Fun:=dU Tryz.prog aN (fun _=>true) aLP aKY lf Tryz.f309
theorem aMG:aJ Tryz.prog aN 309 aBy:=bV aP (aS aMu bC) Tryz.func309 (by kernel_rfl)
def aL5:FuncId→Option Fun:=fun f=>match Nat.beq f 309 with|true=>some aBy|false=>none
def aLf:cO:=fun id=>none
def aBK:Fun:=dU Tryz.prog aN (fun _=>true) aL5 aLf lf Tryz.f209
theorem aMU:aJ Tryz.prog aN 209 aBK:=bV aP (aS aMG bC) Tryz.func209 (by kernel_rfl)
def aMi:FuncId→Option Fun:=fun f=>match Nat.beq f 209 with|true=>some aBK|false=>none
def aLs:cO:=fun id=>none
def aqC:Fun:=dU Tryz.prog aN (fun _=>true) aMi aLs lf Tryz.f126
theorem aM6:aJ Tryz.prog aN 126 aqC:=bV aP (aS aMU bC) Tryz.func126 (by kernel_rfl)
def aL2:FuncId→Option Fun:=fun f=>none
def aLc:cO:=fun id=>none
def ah3:Fun:=dU Tryz.prog aN (fun _=>true) aL2 aLc lf Tryz.f233
theorem aA9:aJ Tryz.prog aN 233 ah3:=bV aP bC Tryz.func233 (by kernel_rfl)
def aLB:FuncId→Option Fun:=fun f=>match Nat.beq f 233 with|true=>some ah3|false=>none
def aKK:cO:=fun id=>none
def aBm:Fun:=dU Tryz.prog aN (fun _=>true) aLB aKK lf Tryz.f393
theorem aMs:aJ Tryz.prog aN 393 aBm:=bV aP (aS aA9 bC) Tryz.func393 (by kernel_rfl)
def aLN:FuncId→Option Fun:=fun f=>match Nat.beq f 196 with|true=>some aqA|false=>match Nat.beq f 393 with|true=>some aBm|false=>none
def aKW:cO:=fun id=>none
def aBw:Fun:=dU Tryz.prog aN (fun _=>true) aLN aKW lf Tryz.f326
theorem aME:aJ Tryz.prog aN 326 aBw:=bV aP (aS aBa (aS aMs bC)) Tryz.func326 (by kernel_rfl)
def aOw:FuncId→Option Fun:=fun f=>none
def aN7:cO:=fun id=>none
def aFU:Fun:=dU Tryz.prog aN (fun _=>true) aOw aN7 lf Tryz.f93
theorem aOS:aJ Tryz.prog aN 93 aFU:=bV aP bC Tryz.func93 (by kernel_rfl)
def aOs:FuncId→Option Fun:=fun f=>none
def aN3:cO:=fun id=>match Nat.beq id 18 with|true=>some ([0,1,3,7,15,3,35,99,255,511],[(0,.pure),(1,.pure),(5,.pure),(6,.read 0),(7,.heavy),(2,.pure),(3,.pure),(4,.read 1),(8,.pure),(9,.pure)])|false=>match Nat.beq id 20 with|true=>some ([0,0,2,0,8,24,0,64,192,504,0,1024,3072,8184,16376,32760,65528,131071],[(3,.pure),(4,.read 0),(5,.heavy),(6,.pure),(7,.pure),(8,.read 1),(9,.heavy),(10,.pure),(11,.pure),(12,.read 2),(13,.heavy),(0,.pure),(1,.pure),(2,.pure),(14,.pure),(15,.pure),(16,.alloc),(17,.heavy)])|false=>match Nat.beq id 22 with|true=>some ([0,1,3,7,0,16,48,112,240,15,1023],[(0,.pure),(1,.pure),(2,.pure),(3,.read 0),(4,.pure),(5,.pure),(6,.pure),(7,.read 0),(8,.pure),(9,.pure),(10,.pure)])|false=>none
def aFS:Fun:=dU Tryz.prog aN (fun _=>true) aOs aN3 lf Tryz.f97
theorem aOQ:aJ Tryz.prog aN 97 aFS:=bV aP bC Tryz.func97 (by kernel_rfl)
def aLv:FuncId→Option Fun:=fun f=>none
def aKE:cO:=fun id=>match Nat.beq id 4 with|true=>some ([0,0,3,7,15,15,15,111,239,15,15,1039,3599,7695,16383,32767,65535],[(0,.pure),(1,.pure),(2,.pure),(3,.pure),(4,.pure),(5,.pure),(6,.pure),(7,.pure),(8,.read 0),(9,.pure),(10,.pure),(11,.pure),(12,.pure),(13,.read 0),(14,.heavy),(15,.pure),(16,.pure)])|false=>match Nat.beq id 6 with|true=>some ([0,0,0,0,8,0,0,64,224,480,0,0,3072,7168,16355,32739,65535,131071],[(0,.pure),(1,.pure),(5,.pure),(6,.pure),(7,.pure),(8,.pure),(9,.read 0),(10,.pure),(11,.pure),(12,.pure),(13,.read 0),(14,.pure),(15,.heavy),(2,.pure),(3,.pure),(4,.pure),(16,.pure),(17,.heavy)])|false=>none
def aBf:Fun:=dU Tryz.prog aN (fun _=>true) aLv aKE lf Tryz.f502
theorem aMl:aJ Tryz.prog aN 502 aBf:=bV aP bC Tryz.func502 (by kernel_rfl)
def aLw:FuncId→Option Fun:=fun f=>match Nat.beq f 502 with|true=>some aBf|false=>none
def aKF:cO:=fun id=>match Nat.beq id 17 with|true=>some ([0,1,3,7,7,7,39,119,247,7,7,1543,3591,8191,16383,32767,65535],[(0,.pure),(1,.pure),(2,.pure),(3,.pure),(4,.pure),(5,.pure),(6,.pure),(7,.pure),(8,.read 0),(9,.pure),(10,.pure),(11,.pure),(12,.read 0),(13,.heavy),(14,.pure),(15,.pure),(16,.pure)])|false=>none
def aBg:Fun:=dU Tryz.prog aN (fun _=>true) aLw aKF lf Tryz.f460
theorem aMm:aJ Tryz.prog aN 460 aBg:=bV aP (aS aMl bC) Tryz.func460 (by kernel_rfl)
def aLz:FuncId→Option Fun:=fun f=>match Nat.beq f 165 with|true=>some aBT|false=>match Nat.beq f 460 with|true=>some aBg|false=>none
def aKI:cO:=fun id=>none
def aBk:Fun:=dU Tryz.prog aN (fun _=>true) aLz aKI lf Tryz.f395
theorem aMq:aJ Tryz.prog aN 395 aBk:=bV aP (aS aM3 (aS aMm bC)) Tryz.func395 (by kernel_rfl)
def aLM:FuncId→Option Fun:=fun f=>match Nat.beq f 394 with|true=>some aBl|false=>match Nat.beq f 395 with|true=>some aBk|false=>none
def aKV:cO:=fun id=>match Nat.beq id 8 with|true=>some ([0,1,3,7,15,31,7,7,135,455,967,1991,4095,8191],[(0,.pure),(1,.pure),(2,.pure),(3,.pure),(4,.read 0),(5,.pure),(6,.pure),(7,.pure),(8,.pure),(9,.pure),(10,.pure),(11,.read 0),(12,.pure),(13,.pure)])|false=>match Nat.beq id 9 with|true=>some ([0,0,2,0,0,16,56,120,248,0,512,2040,4095,8191,16383],[(0,.pure),(1,.pure),(2,.pure),(3,.pure),(4,.pure),(5,.pure),(6,.pure),(7,.pure),(8,.read 0),(9,.pure),(10,.read 0),(11,.pure),(12,.pure),(13,.pure),(14,.heavy)])|false=>none
def aBv:Fun:=dU Tryz.prog aN (fun _=>true) aLM aKV lf Tryz.f327
theorem aMD:aJ Tryz.prog aN 327 aBv:=bV aP (aS aMr (aS aMq bC)) Tryz.func327 (by kernel_rfl)
def aL3:FuncId→Option Fun:=fun f=>match Nat.beq f 325 with|true=>some aBx|false=>match Nat.beq f 326 with|true=>some aBw|false=>match Nat.beq f 327 with|true=>some aBv|false=>none
def aLd:cO:=fun id=>none
def Zx:Fun:=dU Tryz.prog aN (fun _=>true) aL3 aLd lf Tryz.f224
theorem aMS:aJ Tryz.prog aN 224 Zx:=bV aP (aS aMF (aS aME (aS aMD bC))) Tryz.func224 (by kernel_rfl)
def aBW:Fun:=Ot
theorem aM8:aJ Tryz.prog aN 108 aBW:=afi Tryz.func108 (by kernel_rfl) (by kernel_rfl) (by kernel_rfl) (by kernel_rfl)
def aOC:FuncId→Option Fun:=fun f=>match Nat.beq f 108 with|true=>some aBW|false=>none
def aOd:cO:=fun id=>none
def aF0:Fun:=dU Tryz.prog aN (fun _=>true) aOC aOd lf Tryz.f56
theorem aOY:aJ Tryz.prog aN 56 aF0:=bV aP (aS aM8 bC) Tryz.func56 (by kernel_rfl)
def aOM:FuncId→Option Fun:=fun f=>match Nat.beq f 54 with|true=>some axo|false=>match Nat.beq f 55 with|true=>some aF1|false=>match Nat.beq f 56 with|true=>some aF0|false=>none
def aOn:cO:=fun id=>none
def OO:Fun:=dU Tryz.prog aN (fun _=>true) aOM aOn lf Tryz.f26
theorem anE:aJ Tryz.prog aN 26 OO:=bV aP (aS aFL (aS aOZ (aS aOY bC))) Tryz.func26 (by kernel_rfl)
def aBS:Fun:=Zn .i64
theorem aM2:aJ Tryz.prog aN 166 aBS:=anr Tryz.func166 (by kernel_rfl) (by kernel_rfl) (by kernel_rfl) .i64 (by kernel_rfl)
def aOz:FuncId→Option Fun:=fun f=>match Nat.beq f 166 with|true=>some aBS|false=>none
def aOa:cO:=fun id=>none
def aFX:Fun:=dU Tryz.prog aN (fun _=>true) aOz aOa lf Tryz.f84
theorem aOV:aJ Tryz.prog aN 84 aFX:=bV aP (aS aM2 bC) Tryz.func84 (by kernel_rfl)
def aOL:FuncId→Option Fun:=fun f=>none
def aOm:cO:=fun id=>none
def OM:Fun:=dU Tryz.prog aN (fun _=>true) aOL aOm lf Tryz.f27
theorem axl:aJ Tryz.prog aN 27 OM:=bV aP bC Tryz.func27 (by kernel_rfl)
def aOK:FuncId→Option Fun:=fun f=>none
def aOl:cO:=fun id=>none
def U2:Fun:=dU Tryz.prog aN (fun _=>true) aOK aOl lf Tryz.f28
theorem axk:aJ Tryz.prog aN 28 U2:=bV aP bC Tryz.func28 (by kernel_rfl)
def aOJ:FuncId→Option Fun:=fun f=>none
def aOk:cO:=fun id=>none
def aGj:Fun:=dU Tryz.prog aN (fun _=>true) aOJ aOk lf Tryz.f29
theorem aPd:aJ Tryz.prog aN 29 aGj:=bV aP bC Tryz.func29 (by kernel_rfl)
def aOI:FuncId→Option Fun:=fun f=>none
def aOj:cO:=fun id=>none
def aGi:Fun:=dU Tryz.prog aN (fun _=>true) aOI aOj lf Tryz.f30
theorem aPc:aJ Tryz.prog aN 30 aGi:=bV aP bC Tryz.func30 (by kernel_rfl)
def aOx:FuncId→Option Fun:=fun f=>none
def aN8:cO:=fun id=>none
def aFV:Fun:=dU Tryz.prog aN (fun _=>true) aOx aN8 lf Tryz.f92
theorem aOT:aJ Tryz.prog aN 92 aFV:=bV aP bC Tryz.func92 (by kernel_rfl)
def aOy:FuncId→Option Fun:=fun f=>match Nat.beq f 170 with|true=>some aBR|false=>match Nat.beq f 171 with|true=>some aBQ|false=>match Nat.beq f 172 with|true=>some aBP|false=>match Nat.beq f 92 with|true=>some aFV|false=>none
def aN9:cO:=fun id=>match Nat.beq id 5 with|true=>some ([0,1,3,7,0,16,63,0,128,384,896,2047,4095,8191,8191,16383,65535],[(0,.pure),(1,.pure),(2,.pure),(3,.read 0),(4,.pure),(5,.alloc),(6,.heavy),(7,.pure),(8,.pure),(9,.pure),(10,.read 1),(11,.heavy),(12,.pure),(13,.pure),(14,.pure),(15,.pure),(16,.pure)])|false=>match Nat.beq id 10 with|true=>some ([0,0,2,6,14,0,32,96,224,510,1023],[(0,.pure),(1,.pure),(2,.pure),(3,.pure),(4,.read 0),(5,.pure),(6,.pure),(7,.pure),(8,.read 0),(9,.pure),(10,.pure)])|false=>none
def aFW:Fun:=dU Tryz.prog aN (fun _=>true) aOy aN9 lf Tryz.f91
theorem aOU:aJ Tryz.prog aN 91 aFW:=bV aP (aS aM1 (aS aM0 (aS aMZ (aS aOT bC)))) Tryz.func91 (by kernel_rfl)
def aOG:FuncId→Option Fun:=fun f=>match Nat.beq f 91 with|true=>some aFW|false=>none
def aOh:cO:=fun id=>match Nat.beq id 10 with|true=>some ([0,1,3,7,0,16,48,112,240,511,1023],[(0,.pure),(1,.pure),(2,.pure),(3,.read 0),(4,.pure),(5,.pure),(6,.pure),(7,.read 0),(8,.pure),(9,.pure),(10,.pure)])|false=>none
def OL:Fun:=dU Tryz.prog aN (fun _=>true) aOG aOh lf Tryz.f41
theorem anD:aJ Tryz.prog aN 41 OL:=bV aP (aS aOU bC) Tryz.func41 (by kernel_rfl)
def aOB:FuncId→Option Fun:=fun f=>none
def aOc:cO:=fun id=>none
def aFZ:Fun:=dU Tryz.prog aN (fun _=>true) aOB aOc lf Tryz.f58
theorem aOX:aJ Tryz.prog aN 58 aFZ:=bV aP bC Tryz.func58 (by kernel_rfl)
def aOv:FuncId→Option Fun:=fun f=>match Nat.beq f 58 with|true=>some aFZ|false=>none
def aN6:cO:=fun id=>none
def aFT:Fun:=dU Tryz.prog aN (fun _=>true) aOv aN6 lf Tryz.f94
theorem aOR:aJ Tryz.prog aN 94 aFT:=bV aP (aS aOX bC) Tryz.func94 (by kernel_rfl)
def aOF:FuncId→Option Fun:=fun f=>match Nat.beq f 84 with|true=>some aFX|false=>match Nat.beq f 93 with|true=>some aFU|false=>match Nat.beq f 94 with|true=>some aFT|false=>match Nat.beq f 95 with|true=>some anH|false=>match Nat.beq f 96 with|true=>some anG|false=>match Nat.beq f 97 with|true=>some aFS|false=>match Nat.beq f 98 with|true=>some aFR|false=>match Nat.beq f 99 with|true=>some anF|false=>none
def aOg:cO:=fun id=>match Nat.beq id 16 with|true=>some ([0,1,3,0,8,24,56,0,0,256,768,2040,4095],[(3,.pure),(4,.pure),(5,.pure),(6,.read 0),(7,.pure),(8,.pure),(9,.read 0),(10,.pure),(11,.heavy),(0,.pure),(1,.pure),(2,.pure),(12,.heavy)])|false=>match Nat.beq id 20 with|true=>some ([0,1,3,7,0,16,48,15,255],[(0,.pure),(1,.pure),(2,.pure),(3,.heavy),(4,.pure),(5,.read 1),(6,.pure),(7,.pure),(8,.pure)])|false=>none
def UZ:Fun:=dU Tryz.prog aN (fun _=>true) aOF aOg lf Tryz.f42
theorem axj:aJ Tryz.prog aN 42 UZ:=bV aP (aS aOV (aS aOS (aS aOR (aS axi (aS axh (aS aOQ (aS aOP (aS axg bC)))))))) Tryz.func42 (by kernel_rfl)
def aON:FuncId→Option Fun:=fun f=>match Nat.beq f 40 with|true=>some aGb|false=>match Nat.beq f 41 with|true=>some OL|false=>match Nat.beq f 42 with|true=>some UZ|false=>none
def aOp:cO:=fun id=>none
def U5:Fun:=dU Tryz.prog aN (fun _=>true) aON aOp lf Tryz.f13
theorem axm:aJ Tryz.prog aN 13 U5:=bV aP (aS aO7 (aS anD (aS axj bC))) Tryz.func13 (by kernel_rfl)
def aPN:FuncId→Option Fun:=fun f=>match Nat.beq f 13 with|true=>some U5|false=>match Nat.beq f 26 with|true=>some OO|false=>match Nat.beq f 27 with|true=>some OM|false=>match Nat.beq f 28 with|true=>some U2|false=>match Nat.beq f 29 with|true=>some aGj|false=>match Nat.beq f 30 with|true=>some aGi|false=>none
def aPM:cO:=fun id=>none
def aDL:Fun:=dU Tryz.prog aN (fun _=>true) aPN aPM lf Tryz.f9
theorem aPO:aJ Tryz.prog aN 9 aDL:=bV aP (aS axm (aS anE (aS axl (aS axk (aS aPd (aS aPc bC)))))) Tryz.func9 (by kernel_rfl)
def aLH:FuncId→Option Fun:=fun f=>none
def aKQ:cO:=fun id=>none
def aqu:Fun:=dU Tryz.prog aN (fun _=>true) aLH aKQ lf Tryz.f371
theorem aMz:aJ Tryz.prog aN 371 aqu:=bV aP bC Tryz.func371 (by kernel_rfl)
theorem aDs:((List.range 100).all fun n=>D6 aN aN [] [] (.str (eP n)) (aqC [.int .i64 (n:Int)] (mkO aN [])))=true:=by kernel_rfl
def axt:Fun:=tH aqr aqC
theorem aIC:aJ Tryz.prog aN 126 axt:=qM aM6 fun args r e=>by
 obtain⟨n,hn,rfl,rfl⟩:=aA4 e
 exact⟨rfl,List.all_eq_true.1 aDs n (List.mem_range.2 hn)⟩
theorem aFk:((List.range 100).all fun n=>D6 aN aN [] [] (.str (eP n)) (axs [.int .i64 (n:Int)] (mkO aN [])))=true:=by kernel_rfl
def aBU:Fun:=tH aqr axs
theorem aM4:aJ Tryz.prog aN 14 aBU:=qM aPh fun args r e=>by
 obtain⟨n,hn,rfl,rfl⟩:=aA4 e
 exact⟨rfl,List.all_eq_true.1 aFk n (List.mem_range.2 hn)⟩
theorem aJI:D6 aN aN [] [] (.tuple (.cons (.str [73,78,66,79,88]) (.cons (.int .i64 0) .nil))) (aqD [.str [73,78,66,79,88]] (mkO aN []))=true:=by kernel_rfl
def alv:Fun:=tH (QC [73,78,66,79,88] (.tuple (.cons (.str [73,78,66,79,88]) (.cons (.int .i64 0) .nil)))) aqD
theorem aID:aJ Tryz.prog aN 120 alv:=qM aM7 fun args r e=>by
 obtain⟨rfl,rfl⟩:=Zr e
 exact⟨rfl,aJI⟩
theorem aHv:D6 aN aN [] [] (.tuple (.cons (.str [105,110,66,79,88]) (.cons (.int .i64 0) .nil))) (alv [.str [105,110,66,79,88]] (mkO aN []))=true:=by kernel_rfl
def afO:Fun:=tH (QC [105,110,66,79,88] (.tuple (.cons (.str [105,110,66,79,88]) (.cons (.int .i64 0) .nil)))) alv
theorem aFP:aJ Tryz.prog aN 120 afO:=qM aID fun args r e=>by
 obtain⟨rfl,rfl⟩:=Zr e
 exact⟨rfl,aHv⟩
theorem aEI:D6 aN aN [] [] (.tuple (.cons (.str [110,111,110,101]) (.cons (.int .i64 0) .nil))) (afO [.str [110,111,110,101]] (mkO aN []))=true:=by kernel_rfl
def anO:Fun:=tH (QC [110,111,110,101] (.tuple (.cons (.str [110,111,110,101]) (.cons (.int .i64 0) .nil)))) afO
theorem aDK:aJ Tryz.prog aN 120 anO:=qM aFP fun args r e=>by
 obtain⟨rfl,rfl⟩:=Zr e
 exact⟨rfl,aEI⟩
def aIt(r:V)(args:List V):Option V:=match args with
 | []=>some r
 |_=>none
theorem aKx{q:V}{args:List V}{r:V}(e:aIt q args=some r):args= []∧r=q:=by
 unfold aIt at e
 split at e
 ·cases e;exact⟨rfl,rfl⟩
 ·cases e
theorem aPz:D6 aN aN [] [] (.bool true) (aDL [] (mkO aN []))=true:=by kernel_rfl
def aFQ:Fun:=tH (aIt (.bool true)) aDL
theorem aOO:aJ Tryz.prog aN 9 aFQ:=qM aPO fun args r e=>by
 obtain⟨rfl,rfl⟩:=aKx e
 exact⟨rfl,aPz⟩
def rdV(G:Nat)(a b:Int):V×List Ob:=(.tuple (.cons (.slice (Pos.of G) 0 1 (.kn 1)) (.cons (.int .i64 0) .nil)),[.cells (.rw 98 false) [.int .i64 a,.int .i64 b]])
def aDJ(args:List V):Option (V×List Ob):=match args with
 | .str s:: .int .i64 n:: []=>if 1≤n∧n≤20 then(if s= [49] then some (rdV aN 1 1) else if s= [49,58,42] then some (rdV aN 1 n) else if n≤9∧s= [48+n.toNat] then some (rdV aN n n) else none) else none
 |_=>none
def ahy:List Pos:= [Pos.of 13]
theorem aJG:((List.range 20).all fun n=>atY aN Zx ahy [.str [49],.int .i64 ((n:Int)+1)] (rdV aN 1 1))=true:=by kernel_rfl
theorem aJF:((List.range 20).all fun n=>atY aN Zx ahy [.str [49,58,42],.int .i64 ((n:Int)+1)] (rdV aN 1 ((n:Int)+1)))=true:=by kernel_rfl
theorem aJE:((List.range 9).all fun n=>atY aN Zx ahy [.str [48+(n+1)],.int .i64 ((n:Int)+1)] (rdV aN ((n:Int)+1) ((n:Int)+1)))=true:=by kernel_rfl
theorem aIr{args:List V}{r:V×List Ob}(e:aDJ args=some r):∃n:Nat,n<20∧((n<9∧args= [.str [48+(n+1)],.int .i64 ((n:Int)+1)]∧r=rdV aN ((n:Int)+1) ((n:Int)+1))∨(args= [.str [49],.int .i64 ((n:Int)+1)]∧r=rdV aN 1 1)∨(args= [.str [49,58,42],.int .i64 ((n:Int)+1)]∧r=rdV aN 1 ((n:Int)+1))):=by
 unfold aDJ at e
 split at e
 ·rename_i s n
  split at e
  ·rename_i hn
   have h1:(((n - 1).toNat:Int)+1)=n:=by omega
   refine⟨(n - 1).toNat,by omega,?_⟩
   rw [h1]
   split at e
   ·rename_i hs;cases e;exact Or.inr (Or.inl ⟨by rw [hs],rfl⟩)
   ·split at e
    ·rename_i hs;cases e;exact Or.inr (Or.inr ⟨by rw [hs],rfl⟩)
    ·split at e
     ·rename_i hs;cases e
      refine Or.inl ⟨by omega,?_,rfl⟩
      rw [hs.2,show n.toNat=(n - 1).toNat+1 by omega]
     ·cases e
  ·cases e
 ·cases e
def aIF:Fun:=aHe aN aDJ Zx
theorem aQo:aJ Tryz.prog aN 224 aIF:=aJw (l:=ahy) aMS fun args r e=>by
 obtain⟨n,hn,h|h|h⟩:=aIr e
 ·obtain⟨hn9,rfl,rfl⟩:=h;exact List.all_eq_true.1 aJE n (List.mem_range.2 hn9)
 ·obtain⟨rfl,rfl⟩:=h;exact List.all_eq_true.1 aJG n (List.mem_range.2 hn)
 ·obtain⟨rfl,rfl⟩:=h;exact List.all_eq_true.1 aJF n (List.mem_range.2 hn)
def FM(n:Nat):V:=.tuple (.cons (.int .i64 (n:Int)) (.cons (.bool true) .nil))
def aIs(args:List V):Option V:=match args with
 | .str s:: []=>((List.range 20).find? fun n=>decide (eP n=s)).map FM
 |_=>none
theorem aJD:((List.range 20).all fun n=>D6 aN aN [] [] (FM n) (ah3 [.str (eP n)] (mkO aN [])))=true:=by kernel_rfl
theorem aKw{args:List V}{r:V}(e:aIs args=some r):∃n:Nat,n<20∧args= [.str (eP n)]∧r=FM n:=by
 unfold aIs at e
 split at e
 ·rename_i s
  cases hf:(List.range 20).find? fun n=>decide (eP n=s) with
  |none=>rw [hf] at e;cases e
  |some n=>
   rw [hf] at e;cases e
   have h1:=List.find?_some hf
   exact⟨n,List.mem_range.1 (List.mem_of_find?_eq_some hf),by rw [show eP n=s from of_decide_eq_true h1],rfl⟩
 ·cases e
def aIE:Fun:=tH aIs ah3
theorem aQn:aJ Tryz.prog aN 233 aIE:=qM aA9 fun args r e=>by
 obtain⟨n,hn,rfl,rfl⟩:=aKw e
 exact⟨rfl,List.all_eq_true.1 aJD n (List.mem_range.2 hn)⟩
theorem aJC:D6 aN aN [] [] (.tuple (.cons (.str [43,102,108,97,103,115]) (.cons (.bool true) .nil))) (ah2 [.str [43,102,108,97,103,115,46,115,105,108,101,110,116],.str [46,115,105,108,101,110,116]] (mkO aN []))=true:=by kernel_rfl
def alu:Fun:=tH (atT [43,102,108,97,103,115,46,115,105,108,101,110,116] [46,115,105,108,101,110,116] (.tuple (.cons (.str [43,102,108,97,103,115]) (.cons (.bool true) .nil)))) ah2
theorem aIB:aJ Tryz.prog aN 251 alu:=qM aA8 fun args r e=>by
 obtain⟨rfl,rfl⟩:=awf e
 exact⟨rfl,aJC⟩
theorem aHu:D6 aN aN [] [] (.tuple (.cons (.str [45,102,108,97,103,115]) (.cons (.bool true) .nil))) (alu [.str [45,102,108,97,103,115,46,115,105,108,101,110,116],.str [46,115,105,108,101,110,116]] (mkO aN []))=true:=by kernel_rfl
def aGn:Fun:=tH (atT [45,102,108,97,103,115,46,115,105,108,101,110,116] [46,115,105,108,101,110,116] (.tuple (.cons (.str [45,102,108,97,103,115]) (.cons (.bool true) .nil)))) alu
theorem aP2:aJ Tryz.prog aN 251 aGn:=qM aIB fun args r e=>by
 obtain⟨rfl,rfl⟩:=awf e
 exact⟨rfl,aHu⟩
theorem aJH:D6 aN aN [] [] (.tuple (.cons (.str [121]) (.cons (.bool true) .nil))) (aqz [.str [121]] (mkO aN []))=true:=by kernel_rfl
def aIG:Fun:=tH (QC [121] (.tuple (.cons (.str [121]) (.cons (.bool true) .nil)))) aqz
theorem aQp:aJ Tryz.prog aN 212 aIG:=qM aMT fun args r e=>by
 obtain⟨rfl,rfl⟩:=Zr e
 exact⟨rfl,aJH⟩
def afj:V:=.agg (V.ofList ((List.range 256).map fun i=>.bool (Nat.beq i 9||Nat.beq i 32)))
theorem aJB:D6 aN aN [] [] (.tuple (.cons afj (.cons (.bool true) .nil))) (aqu [.str [32,9]] (mkO aN []))=true:=by kernel_rfl
def axr:Fun:=tH (QC [32,9] (.tuple (.cons afj (.cons (.bool true) .nil)))) aqu
theorem aIA:aJ Tryz.prog aN 371 axr:=qM aMz fun args r e=>by
 obtain⟨rfl,rfl⟩:=Zr e
 exact⟨rfl,aJB⟩
end Go.Proofs.Ik
