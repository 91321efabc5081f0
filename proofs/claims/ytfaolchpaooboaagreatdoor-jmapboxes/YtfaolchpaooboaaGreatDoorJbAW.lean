/- Part of the claim: facts that its last text uses. No conditions. -/
import Derived.Test.YtfaolchpaooboaaGreatDoorJbAO
import Derived.Test.YtfaolchpaooboaaGreatDoorJbAV
set_option linter.all false
noncomputable section
namespace Go.Proofs.Jm
open Go Go.Proofs Go.Vm
set_option maxRecDepth 100000
def okB(c:Nat):Bool:=match Nat.ble 32 c with
 |true=>(match Nat.blt c 128 with
  |true=>(match Nat.beq c 34 with
   |true=>false
   |false=>(match Nat.beq c 92 with|true=>false|false=>true))
  |false=>false)
 |false=>false
theorem aEF{c:Nat}(h:okB c=true):okC c:=by
 unfold okB at h
 split at h
 ·rename_i h1
  split at h
  ·rename_i h2
   split at h
   ·cases h
   ·rename_i h3
    split at h
    ·cases h
    ·rename_i h4
     exact⟨Nat.le_of_ble_eq_true h1,by simpa [Nat.blt_eq] using h2,Nat.ne_of_beq_eq_false h3,Nat.ne_of_beq_eq_false h4⟩
  ·cases h
 ·cases h
def zI:List Nat→Option (List Nat)
 | []=>none
 |c::l=>(match Nat.beq c 34 with
  |true=>some []
  |false=>(match okB c with
   |true=>(match zI l with|some q=>some (c::q)|none=>none)
   |false=>none))
theorem yw:∀{l q:List Nat},zI l=some q→(∃r,l=q++34::r)∧∀c∈q,okC c
 | [],q,h=>by cases h
 |c::l,q,h=>by
  unfold zI at h
  split at h
  ·rename_i hb
   cases h
   exact⟨⟨l,by rw [Nat.eq_of_beq_eq_true hb];rfl⟩,fun _ h=>by cases h⟩
  ·split at h
   ·rename_i ho
    split at h
    ·rename_i q' hq
     cases h
     obtain⟨⟨r,e⟩,k⟩:=yw hq
     exact⟨⟨r,by rw [e];rfl⟩,fun d hd=>by rcases List.mem_cons.1 hd with rfl|hd;exact aEF ho;exact k d hd⟩
    ·cases h
   ·cases h
def DC:List Nat→Bool
 | []=>true
 |c::l=>(match Nat.blt c 128 with|true=>DC l|false=>false)
theorem Gf:∀{l:List Nat},DC l=true→∀c∈l,c<128
 | [],_,c,h=>by cases h
 |d::l,e,c,h=>by
  unfold DC at e
  split at e
  ·rename_i hb
   rcases List.mem_cons.1 h with rfl|h
   ·simpa [Nat.blt_eq] using hb
   ·exact Gf e c h
  ·cases e
def preB:List Nat→List Nat→Bool
 | [],_=>true
 |c::t,u=>(match u with| []=>false|d::u=>(match Nat.beq c d with|true=>preB t u|false=>false))
theorem uY:∀{t u:List Nat},preB t u=true→∃r,u=t++r
 | [],u,_=>⟨u,rfl⟩
 |c::t,[],h=>by cases h
 |c::t,d::u,h=>by
  simp only [preB] at h
  split at h
  ·rename_i hb
   obtain⟨r,e⟩:=uY h
   exact⟨r,by rw [e,Nat.eq_of_beq_eq_true hb];rfl⟩
  ·cases h
theorem zW:∀{t u:List Nat},preB t u=false→¬∃r,u=t++r
 | [],u,h=>by cases h
 |c::t,[],_=>by rintro⟨r,e⟩;cases e
 |c::t,d::u,h=>by
  simp only [preB] at h
  rintro⟨r,e⟩
  cases e
  rw [Nat.beq_refl] at h
  exact zW h ⟨r,rfl⟩
def vH:List Nat→Nat→Option Nat:=fun s=>List.rec (motive:=fun _=>Nat→Option Nat) (fun _=>none) (fun c _ ih n=>Nat.casesOn n (some c) fun n=>ih n) s
theorem qO:∀(s:List Nat) (n:Nat),vH s n=s[n]?
 | [],n=>by simp [vH]
 |c::s,0=>rfl
 |c::s,n+1=>by
  show vH s n=_
  rw [qO s n];rfl
def stepD(s:List Nat)(q:Nat):List Nat:=Nat.rec (motive:=fun _=>List Nat) s (fun _ ih=>qc 32 ih) q
theorem yu(s:List Nat):∀q,stepD s q=s.drop (32*q)
 |0=>rfl
 |q+1=>by
  show qc 32 (stepD s q)=_
  rw [tN,yu s q,List.drop_drop];congr 1
def xw(a:Nat)(s:List Nat):List Nat:=bQ (Nat.div a 32) fun q=>bQ (Nat.mod a 32) fun r=>qc r (stepD s q)
theorem o6(a:Nat)(s:List Nat):xw a s=s.drop a:=by
 unfold xw
 rw [bf,bf,tN,yu,List.drop_drop]
 congr 1
 exact Nat.div_add_mod a 32
def JL(s:List Nat)(a:Nat):Option Nat:=bQ (Nat.div a 32) fun q=>bQ (Nat.mod a 32) fun r=>vH (stepD s q) r
theorem Ea(s:List Nat)(a:Nat):JL s a=s[a]?:=by
 unfold JL
 rw [bf,bf,qO,yu,List.getElem?_drop]
 congr 1
 exact Nat.div_add_mod a 32
def Ol(c:Nat):Bool:=match Nat.beq c 32 with
 |true=>true
 |false=>(match Nat.beq c 9 with
  |true=>true
  |false=>(match Nat.beq c 10 with|true=>true|false=>Nat.beq c 13))
theorem vV{c:Nat}(h:Ol c=false):¬qR c:=by
 rintro(rfl|rfl|rfl|rfl)<;>cases h
def rd3(o:Option Ob):Option (TypeId×List Nat×Nat×V):=match o with
 |some (.cells (.rw ty true) [.str s,.int .i64 (.ofNat a),x])=>some (ty,s,a,x)
 |_=>none
theorem zU{o:Option Ob}{ty:TypeId}{s:List Nat}{a:Nat}{x:V}(h:rd3 o=some (ty,s,a,x)):o=some (.cells (.rw ty true) [.str s,.int .i64 (a:Int),x]):=by
 unfold rd3 at h
 split at h
 ·cases h;rfl
 ·cases h
def rd4(o:Option Ob):Option (TypeId×List Nat×Nat×V):=match o with
 |some (.cells (.rw ty true) [.str s,.int .i64 (.ofNat a),x,.int .i64 (.ofNat 0)])=>some (ty,s,a,x)
 |_=>none
theorem IW{o:Option Ob}{ty:TypeId}{s:List Nat}{a:Nat}{x:V}(h:rd4 o=some (ty,s,a,x)):o=some (.cells (.rw ty true) [.str s,.int .i64 (a:Int),x,.int .i64 0]):=by
 unfold rd4 at h
 split at h
 ·cases h;rfl
 ·cases h
def a1S(args:List V):Option (List Nat):=match args with
 | [.str s]=>some s
 |_=>none
theorem aFH{args:List V}{s:List Nat}(h:a1S args=some s):args= [.str s]:=by
 unfold a1S at h;split at h;cases h;rfl;cases h
def a1P(args:List V):Option Pos:=match args with
 | [.ptr p 0]=>some p
 |_=>none
theorem DF{args:List V}{p:Pos}(h:a1P args=some p):args= [.ptr p 0]:=by
 unfold a1P at h;split at h;cases h;rfl;cases h
def a2S(args:List V):Option (Pos×List Nat):=match args with
 | [.ptr p 0,.str t]=>some (p,t)
 |_=>none
theorem akb{args:List V}{p:Pos}{t:List Nat}(h:a2S args=some (p,t)):args= [.ptr p 0,.str t]:=by
 unfold a2S at h;split at h;cases h;rfl;cases h
def a2C(args:List V):Option (Pos×Nat):=match args with
 | [.ptr p 0,.int .u8 (.ofNat c)]=>some (p,c)
 |_=>none
theorem aFG{args:List V}{p:Pos}{c:Nat}(h:a2C args=some (p,c)):args= [.ptr p 0,.int .u8 (c:Int)]:=by
 unfold a2C at h;split at h;cases h;rfl;cases h
def short(s:List Nat):Bool:=Nat.ble s.length 1000000
theorem kS{s:List Nat}(h:short s=true):s.length<1000000000:=by have:=Nat.le_of_ble_eq_true h;omega
def qy(args:List V)(h:Hp):Option (V×Hp):=match a1S args with
 |some s=>(match short s with
  |true=>(match DC s with|true=>some (.bool true,h)|false=>none)
  |false=>none)
 |none=>none
theorem Fe{args:List V}{h h2:Hp}{r:V}(e:qy args h=some (r,h2)):∃s,args= [.str s]∧s.length<1000000000∧(∀c∈s,c<128)∧r=.bool true∧h2=h:=by
 unfold qy at e
 split at e
 ·rename_i s hs
  split at e
  ·rename_i hl
   split at e
   ·rename_i ha
    cases e
    exact⟨s,aFH hs,kS hl,Gf ha,rfl,rfl⟩
   ·cases e
  ·cases e
 ·cases e
theorem abf{f:FuncId}(hF:aj Tryz.prog ah f pR):aj Tryz.prog ah f (fM qy pR):=F8 hF fun args h r h2 ok e=>by
 obtain⟨s,rfl,hl,ha,rfl,rfl⟩:=Fe e
 exact⟨rfl,fun _=>rfl,TD ha hl _⟩
theorem TF{f:FuncId}(hF:aj Tryz.prog ah f pK):aj Tryz.prog ah f (fM qy pK):=F8 hF fun args h r h2 ok e=>by
 obtain⟨s,rfl,hl,ha,rfl,rfl⟩:=Fe e
 exact⟨rfl,fun _=>rfl,Iq ha hl _⟩
def am1(args:List V)(h:Hp):Option (V×Hp):=match a2S args with
 |some (p,t)=>(match rd3 (h.get p) with
  |some (ty,s,a,x)=>(match short s with
   |true=>(match Nat.ble a s.length with
    |true=>(match short t with
     |true=>(match preB t (xw a s) with
      |true=>bQ (a+t.length) fun b=>some (.bool true,h.put p (some (.cells (.rw ty true) [.str s,.int .i64 (.ofNat b),x])))
      |false=>some (.bool false,h))
     |false=>none)
    |false=>none)
   |false=>none)
  |none=>none)
 |none=>none
theorem am0{f:FuncId}(hF:aj Tryz.prog ah f jR):aj Tryz.prog ah f (fM am1 jR):=fast_ok hF fun args h r h2 ok hi e=>by
 unfold am1 at e
 split at e
 ·rename_i p t hat
  obtain rfl:=akb hat
  split at e
  ·rename_i ty s a x hrd
   have hg:=zU hrd
   have hp:=(ok _ _ hg).1
   split at e
   ·rename_i hls
    split at e
    ·rename_i hla
     split at e
     ·rename_i hlt
      have hs:=kS hls
      have ht:=kS hlt
      have ha:=Nat.le_of_ble_eq_true hla
      split at e
      ·rename_i hpre
       rw [o6] at hpre
       obtain⟨u,hu⟩:=uY hpre
       have h1:a+t.length≤s.length:=by
        have:=congrArg List.length hu
        simp at this
        omega
       have h2':(s.drop a).take t.length=t:=by rw [hu];simp
       rw [bf] at e
       cases e
       refine⟨_,id,Ee hg h1 h2' hs,Carry.one ok hp (Ch.put _ _ rfl) (by rw [iq];rfl) ((ok _ _ hg).2),rfl⟩
      ·rename_i hpre
       rw [o6] at hpre
       cases e
       refine⟨h,id,JS hg (fun q=>zW hpre ⟨(s.drop a).drop t.length,?_⟩) hs (by omega) ht,Carry.none ok (Ch.refl _ _),rfl⟩
       conv=>lhs;rw [←List.take_append_drop t.length (s.drop a),q.2]
     ·cases e
    ·cases e
   ·cases e
  ·cases e
 ·cases e
def abK(args:List V)(h:Hp):Option (V×Hp):=match a2S args with
 |some (p,t)=>(match rd3 (h.get p) with
  |some (ty,s,a,x)=>(match short s with
   |true=>(match Nat.ble a s.length with
    |true=>(match preB t (xw a s) with
     |true=>bQ (a+t.length) fun b=>some (.tuple .nil,h.put p (some (.cells (.rw ty true) [.str s,.int .i64 (.ofNat b),x])))
     |false=>none)
    |false=>none)
   |false=>none)
  |none=>none)
 |none=>none
theorem ahz{f:FuncId}(hF:aj Tryz.prog ah f nM):aj Tryz.prog ah f (fM abK nM):=fast_ok hF fun args h r h2 ok hi e=>by
 unfold abK at e
 split at e
 ·rename_i p t hat
  obtain rfl:=akb hat
  split at e
  ·rename_i ty s a x hrd
   have hg:=zU hrd
   have hp:=(ok _ _ hg).1
   split at e
   ·rename_i hls
    split at e
    ·rename_i hla
     have hs:=kS hls
     have ha:=Nat.le_of_ble_eq_true hla
     split at e
     ·rename_i hpre
      rw [o6] at hpre
      obtain⟨u,hu⟩:=uY hpre
      have h1:a+t.length≤s.length:=by
       have:=congrArg List.length hu
       simp at this
       omega
      have h2':(s.drop a).take t.length=t:=by rw [hu];simp
      rw [bf] at e
      cases e
      exact⟨_,id,JM hg h1 h2' hs,Carry.one ok hp (Ch.put _ _ rfl) (by rw [iq];rfl) ((ok _ _ hg).2),rfl⟩
     ·cases e
    ·cases e
   ·cases e
  ·cases e
 ·cases e
def Eo(args:List V)(h:Hp):Option (V×Hp):=match a1P args with
 |some p=>(match rd3 (h.get p) with
  |some (ty,s,a,x)=>(match JL s a with
   |some c=>(match Ol c with|true=>none|false=>some (.tuple .nil,h))
   |none=>some (.tuple .nil,h))
  |none=>none)
 |none=>none
theorem Uf{f:FuncId}(hF:aj Tryz.prog ah f pI):aj Tryz.prog ah f (fM Eo pI):=fast_ok hF fun args h r h2 ok hi e=>by
 unfold Eo at e
 split at e
 ·rename_i p hat
  obtain rfl:=DF hat
  split at e
  ·rename_i ty s a x hrd
   have hg:=zU hrd
   rw [Ea] at e
   split at e
   ·rename_i c hc
    split at e
    ·cases e
    ·rename_i hb
     cases e
     exact⟨h,id,Ue hg hc (vV hb),Carry.none ok (Ch.refl _ _),rfl⟩
   ·rename_i hc
    cases e
    exact⟨h,id,agB hg (by simpa using hc),Carry.none ok (Ch.refl _ _),rfl⟩
  ·cases e
 ·cases e
def yP(args:List V)(h:Hp):Option (V×Hp):=match a1P args with
 |some p=>(match rd4 (h.get p) with
  |some (ty,s,a,x)=>(match JL s a with
   |some c=>(match Ol c with|true=>none|false=>some (.tuple .nil,h))
   |none=>some (.tuple .nil,h))
  |none=>none)
 |none=>none
theorem Oj{f:FuncId}(hF:aj Tryz.prog ah f uo):aj Tryz.prog ah f (fM yP uo):=fast_ok hF fun args h r h2 ok hi e=>by
 unfold yP at e
 split at e
 ·rename_i p hat
  obtain rfl:=DF hat
  split at e
  ·rename_i ty s a x hrd
   have hg:=IW hrd
   rw [Ea] at e
   split at e
   ·rename_i c hc
    split at e
    ·cases e
    ·rename_i hb
     cases e
     exact⟨h,id,Oi hg hc (vV hb),Carry.none ok (Ch.refl _ _),rfl⟩
   ·rename_i hc
    cases e
    exact⟨h,id,Ug hg (by simpa using hc),Carry.none ok (Ch.refl _ _),rfl⟩
  ·cases e
 ·cases e
def anc(args:List V)(h:Hp):Option (V×Hp):=match a2C args with
 |some (p,d)=>(match rd4 (h.get p) with
  |some (ty,s,a,x)=>(match short s with
   |true=>(match JL s a with
    |some c=>(match Nat.beq c d with
     |true=>bQ (a+1) fun b=>some (.bool true,h.put p (some (.cells (.rw ty true) [.str s,.int .i64 (.ofNat b),x,.int .i64 (.ofNat 0)])))
     |false=>some (.bool false,h))
    |none=>some (.bool false,h))
   |false=>none)
  |none=>none)
 |none=>none
theorem ax8{f:FuncId}(hF:aj Tryz.prog ah f nO):aj Tryz.prog ah f (fM anc nO):=fast_ok hF fun args h r h2 ok hi e=>by
 unfold anc at e
 split at e
 ·rename_i p d hat
  obtain rfl:=aFG hat
  split at e
  ·rename_i ty s a x hrd
   have hg:=IW hrd
   have hp:=(ok _ _ hg).1
   rw [Ea] at e
   split at e
   ·rename_i hls
    split at e
    ·rename_i c hc
     split at e
     ·rename_i hb
      obtain rfl:=Nat.eq_of_beq_eq_true hb
      rw [bf] at e
      cases e
      exact⟨_,id,aFv hg hc (kS hls),Carry.one ok hp (Ch.put _ _ rfl) (by rw [iq];rfl) ((ok _ _ hg).2),rfl⟩
     ·rename_i hb
      cases e
      exact⟨h,id,aIt hg hc (Nat.ne_of_beq_eq_false hb),Carry.none ok (Ch.refl _ _),rfl⟩
    ·rename_i hc
     cases e
     exact⟨h,id,aFw hg (by simpa using hc),Carry.none ok (Ch.refl _ _),rfl⟩
   ·cases e
  ·cases e
 ·cases e
def textS(args:List V)(h:Hp):Option (V×Hp):=match a1P args with
 |some p=>(match rd3 (h.get p) with
  |some (ty,s,a,x)=>(match short s with
   |true=>(match xw a s with
    | []=>none
    |c::l=>(match Nat.beq c 34 with
     |true=>(match zI l with
      |some q=>bQ (a+(q.length+2)) fun b=>some (.str q,h.put p (some (.cells (.rw ty true) [.str s,.int .i64 (.ofNat b),x])))
      |none=>none)
     |false=>none))
   |false=>none)
  |none=>none)
 |none=>none
theorem ahd{f:FuncId}(hF:aj Tryz.prog ah f rG):aj Tryz.prog ah f (fM textS rG):=fast_ok hF fun args h r h2 ok hi e=>by
 unfold textS at e
 split at e
 ·rename_i p hat
  obtain rfl:=DF hat
  split at e
  ·rename_i ty s a x hrd
   have hg:=zU hrd
   have hp:=(ok _ _ hg).1
   split at e
   ·rename_i hls
    split at e
    ·cases e
    ·rename_i c l hd
     rw [o6] at hd
     split at e
     ·rename_i hb
      obtain rfl:=Nat.eq_of_beq_eq_true hb
      split at e
      ·rename_i q hq
       obtain⟨⟨u,rfl⟩,hk⟩:=yw hq
       rw [bf] at e
       cases e
       obtain⟨y,h1,e1,rfl,c1,g1⟩:=TG hg hp hd hk (kS hls)
       exact⟨h1,id,e1,Carry.one ok hp c1 g1 ((ok _ _ hg).2),rfl⟩
      ·cases e
     ·cases e
   ·cases e
  ·cases e
 ·cases e
def Iy(args:List V)(h:Hp):Option (V×Hp):=match a1P args with
 |some p=>(match rd4 (h.get p) with
  |some (ty,s,a,x)=>(match short s with
   |true=>(match zI (xw a s) with
    |some q=>bQ (a+(q.length+1)) fun b=>some (.str q,h.put p (some (.cells (.rw ty true) [.str s,.int .i64 (.ofNat b),x,.int .i64 (.ofNat 0)])))
    |none=>none)
   |false=>none)
  |none=>none)
 |none=>none
theorem abh{f:FuncId}(hF:aj Tryz.prog ah f rO):aj Tryz.prog ah f (fM Iy rO):=fast_ok hF fun args h r h2 ok hi e=>by
 unfold Iy at e
 split at e
 ·rename_i p hat
  obtain rfl:=DF hat
  split at e
  ·rename_i ty s a x hrd
   have hg:=IW hrd
   have hp:=(ok _ _ hg).1
   split at e
   ·rename_i hls
    split at e
    ·rename_i q hq
     rw [o6] at hq
     obtain⟨⟨u,hu⟩,hk⟩:=yw hq
     rw [bf] at e
     cases e
     obtain⟨y,h1,e1,rfl,c1,g1⟩:=Iw hg hp hu hk (kS hls)
     exact⟨h1,id,e1,Carry.one ok hp c1 g1 ((ok _ _ hg).2),rfl⟩
    ·cases e
   ·cases e
  ·cases e
 ·cases e
end Go.Proofs.Jm
