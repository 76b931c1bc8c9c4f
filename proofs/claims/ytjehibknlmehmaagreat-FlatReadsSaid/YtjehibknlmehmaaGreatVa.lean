/- Contracts of the byte functions, of strings.IndexByte by the shelf, and of both scanners. No condition. -/
import Derived.Shelf.Small.Strs
import Derived.Test.YtjehibknlmehmaaGreatProg
import Derived.Test.YtjehibknlmehmaaGreatGs
set_option maxRecDepth 100000
namespace Go.Proofs.YtjehibknlmehmaaGreat
open Go.Ab
def gW(c:Int):Bool:=decide (97<=c)&&decide (c<=122)||decide (65<=c)&&decide (c<=90)||c==95
def isDigit(c:Int):Bool:=decide (48<=c)&&decide (c<=57)
def ly(c:Int):Bool:=c==9||c==10||c==13||c==32
def jY(c:Int):Bool:=c==123||c==125||c==91||c==93||c==59||c==44
def qM(g:FuncId)(p:Int->Bool):Prop:=∀{h:AH}{c:Int}{M:Nat->Prop}{R:AE->AH->Prop},R (.ret (.sc (.bool (p c)))) h->aA Pg g [.sc (.int .u8 c)] h M R
theorem AQ:qM 53 isDigit:=by
 intro h c M R hR
 apply YK.calls
 by_cases h1:48<=c<;>by_cases h2:c<=57<;>simpa[h1,h2,isDigit] using hR
theorem yg:qM 28 isDigit:=by
 intro h c M R hR
 apply YT.calls
 by_cases h1:48<=c<;>by_cases h2:c<=57<;>simpa[h1,h2,isDigit] using hR
theorem xG:qM 51 gW:=by
 intro h c M R hR
 apply YL.calls
 by_cases h1:97<=c<;>by_cases h2:c<=122<;>by_cases h3:65<=c<;>by_cases h4:c<=90<;>by_cases h5:c=95<;>simpa[h1,h2,h3,h4,h5,gW] using hR
theorem vL:qM 27 gW:=by
 intro h c M R hR
 apply YU.calls
 by_cases h1:97<=c<;>by_cases h2:c<=122<;>by_cases h3:65<=c<;>by_cases h4:c<=90<;>by_cases h5:c=95<;>simpa[h1,h2,h3,h4,h5,gW] using hR
theorem OO:qM 26 ly:=by
 intro h c M R hR
 apply YV.calls
 by_cases h1:c=9
 ·subst h1;simpa[ly] using hR
 by_cases h2:c=10
 ·subst h2;simpa[ly] using hR
 by_cases h3:c=13
 ·subst h3;simpa[ly] using hR
 simpa[ly,h1,h2,h3,beq_false_of_ne h1,beq_false_of_ne h2,beq_false_of_ne h3] using hR
theorem K4:qM 29 jY:=by
 intro h c M R hR
 apply YS.calls
 by_cases h1:c=123
 ·subst h1;simpa[jY] using hR
 by_cases h2:c=125
 ·subst h2;simpa[jY] using hR
 by_cases h3:c=91
 ·subst h3;simpa[jY] using hR
 by_cases h4:c=93
 ·subst h4;simpa[jY] using hR
 by_cases h5:c=59
 ·subst h5;simpa[jY] using hR
 simpa[jY,h1,h2,h3,h4,h5,beq_false_of_ne h1,beq_false_of_ne h2,beq_false_of_ne h3,beq_false_of_ne h4,beq_false_of_ne h5] using hR
theorem Nh:qM 50 (fun c=>c != 10):=by
 intro h c M R hR
 apply YM.calls
 simpa using hR
theorem K7:qM 52 (fun c=>gW c||isDigit c):=by
 intro h c M R hR
 apply IB.calls
 simp only[IB.k5,IB.k4]
 refine⟨fun _=>False,fun _ h=>h.elim,xG ?_⟩
 cases h1:gW c
 ·simp[-IB.k3,IB.k3]
  refine⟨fun _=>False,fun _ h=>h.elim,AQ ?_⟩
  simpa[h1] using hR
 ·simpa[h1] using hR
def eX(p:Int->Bool)(s:ByteArray)(at_:Nat):Nat:=
 if h:at_<s.size then(if p s[at_].toNat then eX p s (at_+1) else at_) else at_
termination_by s.size-at_
theorem E5{g:FuncId}{p:Int->Bool}(hg:qM g p)(he:yU Pg g=true){s:ByteArray}{at_:Nat}{h:AH}{M:Nat->Prop}{R:AE->AH->Prop}(hs:s.size<9223372036854775807)(hR:R (.ret (.sc (.int .i64 (eX p s at_)))) h) :
  aA Pg 49 [.sc (.string s),.sc (.int .i64 at_),.fn (.func g) [] []] h M R:=by
 apply Mk.calls
 simp only[Mk.k8,Mk.k7]
 refine gY (ι:=Nat) (fun i s' h'=>h'=h/\s'.ds=[]/\s'.tm 0=.sc (.string s)/\s'.tm 1=.sc (.int .i64 i)/\s'.tm 2=.fn (.func g) [] []/\eX p s i=eX p s at_) (fun i=>s.size-i) at_ ?_ ?_
 ·simp
 rintro i ⟨tm,ds⟩ h' ⟨rfl,rfl,h0,h1,h2,hr⟩
 rw[Mk.l1]
 simp only at h0 h1 h2
 rw[eX]at hr
 by_cases hi:i<s.size
 ·have BY:s[i]?=some s[i]:=by simp[hi]
  simp[h0,h1,h2,hi,G3,he]
  refine⟨fun _=>False,fun _ h=>h.elim,hg ?_⟩
  simp only[hi,dif_pos]at hr
  have hw:IntKind.i64.wrap (↑i+1)=((i+1:Nat):Int):=by rw[aR (by omega) (by omega)];simp
  cases hp:p s[i].toNat
  ·simp only[hp,zE,if_false]at hr
   simpa[hr] using hR
  ·simp only[hp,zV]at hr
   simp only[al]
   exact⟨fun _=>⟨i+1,by omega,trivial,hw,hr⟩,fun h=>by cases h⟩
 ·simp[h0,h1,h2,hi]
  simp[hi]at hr
  rw[hr];exact hR
end Go.Proofs.YtjehibknlmehmaaGreat
namespace Go.Proofs
open Go.Shelf
def Tryz.Hm:Go.Shelf.Ren:={ f:=fun x=>match x with |137=>54 |217=>80 |266=>97 |n=>n,t:=fun x=>match x with |9=>9 |5=>5 |3=>3 |n=>n,g:=fun n=>n }
theorem Tryz.R8:Lays.n137 Tryz.prog Tryz.Hm where
 mixed:=by kernel_rfl
 f137:=Tryz.func54.trans (congrArg some (by kernel_rfl))
 f217:=Tryz.func80.trans (congrArg some (by kernel_rfl))
 f266:=Tryz.func97.trans (congrArg some (by kernel_rfl))
 t3:=Tryz.underlying3
 a3:=Tryz.isAgg3
 z3:=Tryz.sizeOf3
 v3:=Tryz.zeroValue3
 t5:=Tryz.underlying5
 a5:=Tryz.isAgg5
 z5:=Tryz.sizeOf5
 v5:=Tryz.zeroValue5
 t9:=Tryz.underlying9
 a9:=Tryz.isAgg9
 z9:=Tryz.sizeOf9
 v9:=Tryz.zeroValue9
theorem Tryz.strings_IndexByte(s:ByteArray)(c:Int)(w:World) :
  Calls Tryz.prog 54 #[.string s,.int .u8 c] w fun e w'=>e=.returned (.int .i64 (Lib.indexByte s.data.toList c.toNat.toUInt8))/\w'=w:=Any.strings_IndexByte Tryz.R8 s c w
end Go.Proofs
namespace Go.Proofs.YtjehibknlmehmaaGreat
section
open Go.Ab
structure Tok where
 kind:Int
 text:ByteArray
 at_:Int
def Tok.enc(t:Tok):List AV:=[.sc (.int .i64 t.kind),.sc (.string t.text),.sc (.int .i64 t.at_)]
theorem Tok.bu(t:Tok):t.enc.length=3:=rfl
theorem Tok.hZ(t:Tok):t.enc.all cR=true:=rfl
inductive Ra where
 |skip (i:Nat)
 |tok (t:Tok) (i:Nat)
 |err (i:Nat)
def fX(c:Int):Bool:=gW c||isDigit c
def fU(s:ByteArray)(i:Nat):Int:=match s[i]? with |some c=>c.toNat |none=>0
def mG(s:ByteArray)(i:Nat)(c:Int):Ra:=
 if ly c then .skip (i+1)
 else if c==35 then .skip (eX (fun c=>c != 10) s i)
 else if gW c then .tok ⟨1,s.extract i (eX fX s i),i⟩ (eX fX s i)
 else if isDigit c then(if decide (eX isDigit s i<s.size)&&gW (fU s (eX isDigit s i)) then .err (eX isDigit s i) else .tok ⟨2,s.extract i (eX isDigit s i),i⟩ (eX isDigit s i))
 else if jY c then .tok ⟨3,s.extract i (i+1),i⟩ (i+1)
 else .err i
def fB(s:ByteArray)(i:Nat)(acc:List Tok):Except Nat (List Tok):=
 if h:i<s.size then
  match mG s i (fU s i) with
  |.skip j=>if i<j then fB s j acc else .error 0
  |.tok t j=>if i<j then fB s j (acc++[t]) else .error 0
  |.err j=>.error j
 else .ok acc
termination_by s.size-i
theorem FG{h:AH}{s:ByteArray}{c:Int}{M:Nat->Prop}{R:AE->AH->Prop}(hR:R (.ret (.sc (.int .i64 (Lib.indexByte s.data.toList c.toNat.toUInt8)))) h):aA Pg 54 [.sc (.string s),.sc (.int .u8 c)] h M R:=by
 intro E w fW hr ha
 cases ha with
 |cons h1 h2=>
  cases h2 with
  |cons h3 h4=>
   cases h4;cases h1;cases h3
   refine(Tryz.strings_IndexByte s c w).mono ?_
   rintro e w' ⟨rfl,rfl⟩
   exact⟨E,h,.ret (.sc (.int .i64 _)),Step.refl hr,VR.sc _,hR⟩
theorem Rr(c:UInt8):decide (Lib.indexByte [123,125,91,93,59,44] c<0)=!jY c.toNat:=by
 have key:∀n:Fin 256,decide (Lib.indexByte [123,125,91,93,59,44] (UInt8.ofNat n)<0)=!jY ((UInt8.ofNat n).toNat:Nat):=by decide +kernel
 have:=key ⟨c.toNat,c.toNat_lt⟩
 simpa using this
theorem HD(p:Int->Bool)(s:ByteArray):∀(n i:Nat),s.size-i=n->i<=s.size->i<=eX p s i/\eX p s i<=s.size:=by
 intro n
 induction n with
 |zero=>intro i h1 h2;rw[eX,dif_neg (by omega)];omega
 |succ n ih=>
  intro i h1 h2
  rw[eX,dif_pos (by omega)]
  split
  ·have:=ih (i+1) (by omega) (by omega);omega
  ·omega
theorem ss(p:Int->Bool)(s:ByteArray)(i:Nat)(h:i<s.size)(hp:p (fU s i)=true):i<eX p s i/\eX p s i<=s.size:=by
 rw[eX,dif_pos h]
 have:fU s i=s[i].toNat:=by simp[fU,h]
 rw[<-this,zX hp]
 have:=HD p s _ (i+1) rfl (by omega)
 omega
def y3(s:ByteArray)(h:AH)(R:AE->AH->Prop):Prop:=
 if 65536<s.size then ∀h',h.next<=h'.next->(∀i,i<h.next->h'.obj i=h.obj i)->R (.ret (.dD [aQ,.sc (.int .i64 0),.sc (.int .i64 1)])) h'
 else match fB s 0 [] with
 |.ok l=>∀x h',cl Tok.enc 3 84 h' x l->dC (h.next<=·) x->h.next<=h'.next->(∀i,i<h.next->h'.obj i=h.obj i)->R (.ret (.dD [x,.sc (.int .i64 0),.sc (.int .i64 0)])) h'
 |.error p=>∀h',h.next<=h'.next->(∀i,i<h.next->h'.obj i=h.obj i)->R (.ret (.dD [aQ,.sc (.int .i64 p),.sc (.int .i64 90)])) h'
def wg(n:Nat)(tm dY:Nat->AV):Prop:=∀i,i<n->dY i=tm i
theorem wg.refl{n:Nat}{tm:Nat->AV}:wg n tm tm:=fun _ _=>rfl
theorem wg.fF{n d:Nat}{tm dY:Nat->AV}{v:AV}(h:wg n tm dY)(hd:n<=d):wg n tm (Go.Ab.fF dY d v):=fun i hi=>by rw[jF (by omega)];exact h i hi
theorem Mr{W:Nat->Prop}{Q:cH}{QP:cb}{tm:Nat->AV}{ds:List gB}{h:AH}{c:Int}(h7:tm 7=.sc (.int .u8 c))
  (hy:ly c=true->∀dY,wg 10 tm dY->iC.k4 W Q QP ⟨dY,ds⟩ h) (hn:ly c=false->∀dY,wg 10 tm dY->iC.lP W Q QP ⟨dY,ds⟩ h):iC.oY W Q QP ⟨tm,ds⟩ h:=by
 unfold ly at hy hn
 cases e9:c==9<;>cases QY:c==10<;>cases Yr:c==13<;>cases Yp:c==32 <;>
 simp only[e9,QY,Yr,Yp,Bool.or_true,Bool.or_false,Bool.true_or,Bool.false_or,zD,zE,zC,zF]at hy hn <;>
 simp[-iC.lP,-iC.k4,h7,e9,QY,Yr,Yp] <;>
 (first |refine hy _ ?_ |refine hn _ ?_)<;>repeat (first |exact wg.refl |refine wg.fF ?_ (Nat.le_of_ble_eq_true rfl))
theorem y5{W:Nat->Prop}{Q:cH}{QP:cb}{tm:Nat->AV}{h:AH}{s:ByteArray}{i j:Nat}{k:Int}{acc:List Tok}{x5:AV}(h5x:tm 5=x5)(h0:tm 0=.sc (.string s))(h6:tm 6=.sc (.int .i64 i))(h8:tm 8=.sc (.int .i64 j))(h9:tm 9=.sc (.int .i64 k))
  (h5:cl Tok.enc 3 84 h x5 acc) (hw:dC W x5) (hij:i<=j) (BU:j<=s.size) (hn:acc.length<=100000000)
  (hK:∀dY h',dY 0=.sc (.string s)->dY 6=.sc (.int .i64 j)->cl Tok.enc 3 84 h' (dY 5) (acc++[⟨k,s.extract i j,i⟩])->dC (h.next<=·) (dY 5)->(∀i,i<h.next->(∀off n,x5≠.sl i off n)->h'.obj i=h.obj i)->h.next<=h'.next->Q .normal ⟨dY,[]⟩ h') :
  iC.k3 W Q QP ⟨tm,[]⟩ h:=by
 simp only[iC.k3,h5x,h0,h6,h8,h9,qk,tf]
 refine⟨i,j,rfl,rfl,⟨by omega,by omega,by omega⟩,?_⟩
 refine⟨Tok.enc ⟨k,s.extract i j,i⟩,rfl,?_⟩
 refine OT (f:=Tok.enc) Tok.bu (by decide) rfl Tok.hZ (by decide) h5 hw hn ?_
 intro y h' e1 e2 e3 e4
 simp only[iC.k2]
 refine hK _ _ ?_ ?_ ?_ ?_ e3 e4
 ·simp[h0]
 ·simp[h8]
 ·simpa using e1
 ·simpa using e2
def ug(s:ByteArray)(h:AH)(x:Nat×List Tok)(s':St)(h':AH):Prop:=
 s'.ds=[]/\s'.tm 0=.sc (.string s)/\s'.tm 6=.sc (.int .i64 x.1)/\cl Tok.enc 3 84 h' (s'.tm 5) x.2/\dC (h.next<=·) (s'.tm 5)/\x.2.length<=x.1/\x.1<=s.size/\fB s x.1 x.2=fB s 0 []/\h.next<=h'.next/\(∀i,i<h.next->h'.obj i=h.obj i)
theorem Rs{h:AH}{s:ByteArray}{M:Nat->Prop}{R:AE->AH->Prop}(hR:y3 s h R):aA Pg 19 [.sc (.string s)] h M R:=by
 apply iC.calls
 unfold y3 at hR
 simp only[iC.oW,iC.pt,iC.oA]
 by_cases hb:65536<s.size
 ·rw[zX hb]at hR
  have sQ:(65536:Int)<s.size:=by omega
  simp[sQ]
  exact hR h (zU _) fun _ _=>rfl
 rw[zW hb]at hR
 have hs:s.size<9223372036854775807:=by omega
 have sQ:¬(65536:Int)<s.size:=by omega
 simp[-iC.pz,sQ]
 unfold iC.pz
 refine gY (ι:=Nat×List Tok) (ug s h) (fun i=>s.size-i.1) (0,[]) ?_ ?_
 ·simp[ug]
  exact⟨.nil,by intro id off n h;cases h⟩
 rintro⟨i,acc⟩ ⟨tm,ds⟩ h' ⟨rfl,h0,h6,h5,lC,nW,NO,dI,hn,hf⟩
 simp only at h0 h6 h5 lC nW dI NO
 rw[iC.l1]
 rw[fB]at dI
 by_cases hi:i<s.size
 ·rw[dif_pos hi]at dI
  simp only[iC.nN,iC.oX,iC.mH,iC.pA]
  have hw:IntKind.i64.wrap (↑i+1)=((i+1:Nat):Int):=by rw[aR (by omega) (by omega)];simp
  have rQ:fU s i=s[i].toNat:=by simp[fU,hi]
  have gp:=Rr s[i]
  have hsu:((s[i].toNat:Int).toNat.toUInt8)=s[i]:=by simp
  simp[-iC.oY,h0,h6,hi,hw]
  have aaK:(((s[i].toNat:Nat):Int)).toNat.toUInt8=s[i]:=by simp
  generalize hc:((s[i].toNat:Nat):Int)=c at *
  rw[rQ]at dI
  have skip:∀j,i<j->j<=s.size->fB s j acc=fB s 0 []->∀(dY:Nat->AV) ,dY 0=.sc (.string s)->dY 5=tm 5->dY 6=.sc (.int .i64 j) ->
    ∃a,s.size-a<s.size-i/\∃x:List Tok,ug s h (a,x) ⟨dY,[]⟩ h':=by
   intro j Qx BW BV dY e0 e5 e6
   exact⟨j,by omega,acc,rfl,e0,e6,by simpa[e5] using h5,by simpa[e5] using lC,by simp only;omega,BW,BV,hn,hf⟩
  have uL:∀j t,i<j->j<=s.size->fB s j (acc++[t])=fB s 0 []->∀(dY:Nat->AV)(h2:AH),dY 0=.sc (.string s)->dY 6=.sc (.int .i64 j)->cl Tok.enc 3 84 h2 (dY 5) (acc++[t])->dC (h'.next<=·) (dY 5) ->
    (∀i,i<h'.next->(∀off n,tm 5≠.sl i off n)->h2.obj i=h'.obj i)->h'.next<=h2.next->∃a,s.size-a<s.size-i/\∃x:List Tok,ug s h (a,x) ⟨dY,[]⟩ h2:=by
   intro j t Qx BW BV dY h2 e0 e6 e5 Vz e7 e8
   refine⟨j,by omega,acc++[t],rfl,e0,e6,e5,?_,?_,BW,BV,by omega,?_⟩
   ·intro id off n he;exact zR hn (Vz id off n he)
   ·simp;omega
   ·intro q hq
    rw[e7 q (by omega) ?_];exact hf q hq
    intro off n he
    have:=lC q off n he
    simp only at this;omega
  refine Mr (c:=c) (by simp) ?_ ?_
  ·intro H7 dY pD
   simp only[mG,H7,zV]at dI
   rw[zX (by omega)]at dI
   have e0:=pD 0 (by decide);have e5:=pD 5 (by decide);have e6:=pD 6 (by decide)
   simp[h0,h6]at e0 e5 e6
   simp only[iC.k4,e6,aZ,hw,bJ]
   refine skip (i+1) (by omega) (by omega) dI _ ?_ ?_ ?_<;>simp[e0,e5]
  intro H7 dY pD
  have e0:=pD 0 (by decide);have e5:=pD 5 (by decide);have e6:=pD 6 (by decide);have e7:=pD 7 (by decide);have e8:=pD 8 (by decide);have e9:=pD 9 (by decide)
  simp[h0,h6]at e0 e5 e6 e7 e8 e9
  clear pD
  simp only[iC.lP,iC.ml,e7,eG]
  simp only[mG,H7,zE,if_false]at dI
  cases kK:c==35
  ·simp only[kK,zE,if_false]at dI
   simp[-iC.jA,e7]
   refine⟨fun _=>False,fun _ h=>h.elim,xG ?_⟩
   have hW:dC (fun id=>M id\/h.next<=id) (tm 5):=fun id off n he=>.inr (lC id off n he)
   simp only[iC.jA]
   cases hl:gW c
   ·simp only[hl,zE,if_false]at dI
    simp[-iC.iq,e7]
    refine⟨fun _=>False,fun _ h=>h.elim,AQ ?_⟩
    simp only[iC.iq]
    cases hd:isDigit c
    ·simp only[hd,zE,if_false]at dI
     simp[-iC.fi,e7]
     refine⟨fun _=>False,fun _ h=>h.elim,FG ?_⟩
     have zo:decide (Lib.indexByte [123,125,91,93,59,44] s[i]<0)=!jY c:=by rw[gp]
     simp only[bc,aaK,zo]
     cases FN:jY c
     ·simp only[FN,zE,if_false]at dI
      rw[<-dI]at hR
      simp[e6]
      exact hR _ hn hf
     ·simp only[FN,zV]at dI
      rw[zX (by omega)]at dI
      simp[-iC.k3]
      refine y5 (s:=s) (i:=i) (j:=i+1) (k:=3) (acc:=acc) (x5:=tm 5) ?_ ?_ ?_ ?_ ?_ h5 hW (by omega) (by omega) (by omega) ?_<;>try (simp[e0,e5,e6,e8,e9];done)
      exact uL _ _ (by omega) (by omega) dI
    ·simp only[hd,zV]at dI
     have hg:=ss isDigit s i hi (by rw[rQ];exact hd)
     simp[-iC.cZ,e0,e6]
     refine⟨fun _=>False,fun _ h=>h.elim,E5 AQ rfl hs ?_⟩
     simp only[iC.cZ]
     generalize eX isDigit s i=j at *
     by_cases hj:j<s.size
     ·have Va:fU s j=s[j].toNat:=by simp[fU,hj]
      simp[-iC.k8,e0,hj]
      refine⟨fun _=>False,fun _ h=>h.elim,xG ?_⟩
      rw[Va]at dI
      cases Ln:gW (s[j].toNat:Nat)
      ·simp only[Ln,Bool.and_false,zE,if_false]at dI
       rw[zX hg.1]at dI
       simp[-iC.k3]
       refine y5 (s:=s) (i:=i) (j:=j) (k:=2) (acc:=acc) (x5:=tm 5) ?_ ?_ ?_ ?_ ?_ h5 hW (by omega) (by omega) (by omega) ?_<;>try (simp[e0,e5,e6,e8,e9];done)
       exact uL _ _ (by omega) (by omega) dI
      ·simp only[Ln,hj,decide_true,Bool.and_true,zV]at dI
       rw[<-dI]at hR
       simp
       exact hR _ hn hf
     ·simp only[hj,decide_false,Bool.false_and,zE,if_false]at dI
      rw[zX hg.1]at dI
      simp[-iC.k3,e0,hj]
      refine y5 (s:=s) (i:=i) (j:=j) (k:=2) (acc:=acc) (x5:=tm 5) ?_ ?_ ?_ ?_ ?_ h5 hW (by omega) (by omega) (by omega) ?_<;>try (simp[e0,e5,e6,e8,e9];done)
      exact uL _ _ (by omega) (by omega) dI
   ·simp only[hl,zV]at dI
    have hg:=ss fX s i hi (by rw[rQ];simp[fX,hl])
    rw[zX hg.1]at dI
    simp[-iC.k3,-iC.hH,e0,e6]
    refine⟨fun _=>False,fun _ h=>h.elim,E5 (show qM 52 fX from K7) rfl hs ?_⟩
    refine y5 (s:=s) (i:=i) (j:=eX fX s i) (k:=1) (acc:=acc) (x5:=tm 5) ?_ ?_ ?_ ?_ ?_ h5 hW (by omega) (by omega) (by omega) ?_<;>try (simp[e0,e5,e6,e8,e9];done)
    exact uL _ _ (by omega) (by omega) dI
  ·simp only[kK,zV]at dI
   have hg:=ss (fun c=>c != 10) s i hi (by rw[rQ];simp at kK;simp[kK])
   rw[zX hg.1]at dI
   simp[-iC.lx,iC.k5,e0,e6]
   refine⟨fun _=>False,fun _ h=>h.elim,E5 Nh rfl hs ?_⟩
   refine skip _ hg.1 hg.2 dI _ ?_ ?_ ?_<;>simp[e0,e5]
 ·rw[dif_neg hi]at dI
  rw[<-dI]at hR
  have hi':¬(i:Int)<s.size:=by omega
  simp only[iC.nN,iC.oX]
  simp[-iC.mH,h0,h6,hi]
  exact hR _ _ h5 lC hn hf
end
section
open Go.Ab
def Ik(tm dY:Nat->AV):Prop:=dY 0=tm 0/\dY 5=tm 5/\dY 8=tm 8
theorem Wj{W:Nat->Prop}{Q:cH}{QP:cb}{tm:Nat->AV}{h:AH}{s:ByteArray}{i:Nat}(hs:s.size<9223372036854775807)(h0:tm 0=.sc (.string s))(h6:tm 6=.sc (.int .i64 i))
  (hQ:∀dY,Ik tm dY->dY 6=.sc (.int .i64 (eX (fun c=>c != 10) s i))->Q (.exit 3) ⟨dY,[]⟩ h):hJ (aw Pg 121 W fy.pl fy.c2) Q QP ⟨tm,[]⟩ h:=by
 refine gY (ι:=Nat) (fun j s' h'=>s'.ds=[]/\h'=h/\Ik tm s'.tm/\s'.tm 6=.sc (.int .i64 j)/\eX (fun c=>c != 10) s j=eX (fun c=>c != 10) s i) (fun j=>s.size-j) i ⟨rfl,rfl,⟨rfl,rfl,rfl⟩,h6,rfl⟩ ?_
 rintro j ⟨dY,ds⟩ h' ⟨rfl,rfl,⟨k0,k5,k8⟩,k6,hr⟩
 rw[fy.l2]
 simp only at k0 k5 k8 k6
 rw[h0]at k0
 rw[eX]at hr
 by_cases hj:j<s.size
 ·have hw:IntKind.i64.wrap (↑j+1)=((j+1:Nat):Int):=by rw[aR (by omega) (by omega)];simp
  rw[dif_pos hj]at hr
  cases hp:((s[j].toNat:Nat):Int) != 10
  ·simp only[hp,zE,if_false]at hr
   simp[k0,k6,hj,hp]
   refine hQ _ ⟨?_,?_,?_⟩ ?_<;>simp[k0,k5,k8,h0,k6,hr]
  ·simp only[hp,zV]at hr
   simp[k0,k6,hj,hp]
   refine⟨j+1,by omega,⟨?_,?_,?_⟩,?_,hr⟩<;>simp[k0,k5,k8,h0,hw]
 ·rw[dif_neg hj]at hr
  have X_:¬(j:Int)<s.size:=by omega
  simp[k0,k6,hj]
  refine hQ _ ⟨?_,?_,?_⟩ ?_<;>simp[k0,k5,k8,h0,k6,hr]
theorem Wh{W:Nat->Prop}{Q:cH}{QP:cb}{tm:Nat->AV}{h:AH}{s:ByteArray}{i:Nat}(hs:s.size<9223372036854775807)(h0:tm 0=.sc (.string s))(h6:tm 6=.sc (.int .i64 i))
  (hQ:∀dY,Ik tm dY->dY 6=.sc (.int .i64 (eX isDigit s i))->Q (.exit 7) ⟨dY,[]⟩ h):hJ (aw Pg 121 W fy.pl fy.c4) Q QP ⟨tm,[]⟩ h:=by
 refine gY (ι:=Nat) (fun j s' h'=>s'.ds=[]/\h'=h/\Ik tm s'.tm/\s'.tm 6=.sc (.int .i64 j)/\eX isDigit s j=eX isDigit s i) (fun j=>s.size-j) i ⟨rfl,rfl,⟨rfl,rfl,rfl⟩,h6,rfl⟩ ?_
 rintro j ⟨dY,ds⟩ h' ⟨rfl,rfl,⟨k0,k5,k8⟩,k6,hr⟩
 rw[fy.l4]
 simp only at k0 k5 k8 k6
 rw[h0]at k0
 rw[eX]at hr
 by_cases hj:j<s.size
 ·have hw:IntKind.i64.wrap (↑j+1)=((j+1:Nat):Int):=by rw[aR (by omega) (by omega)];simp
  rw[dif_pos hj]at hr
  simp[k0,k6,hj]
  refine⟨fun _=>False,fun _ h=>h.elim,yg ?_⟩
  cases hp:isDigit ((s[j].toNat:Nat):Int)
  ·simp only[hp,zE,if_false]at hr
   simp
   refine hQ _ ⟨?_,?_,?_⟩ ?_<;>simp[k0,k5,k8,h0,k6,hr]
  ·simp only[hp,zV]at hr
   simp[k6]
   refine⟨j+1,by omega,⟨?_,?_,?_⟩,?_,hr⟩<;>simp[k0,k5,k8,h0,hw]
 ·rw[dif_neg hj]at hr
  have X_:¬(j:Int)<s.size:=by omega
  simp[k0,k6,hj]
  refine hQ _ ⟨?_,?_,?_⟩ ?_<;>simp[k0,k5,k8,h0,k6,hr]
theorem Wi{W:Nat->Prop}{Q:cH}{QP:cb}{tm:Nat->AV}{h:AH}{s:ByteArray}{i:Nat}(hs:s.size<9223372036854775807)(h0:tm 0=.sc (.string s))(h6:tm 6=.sc (.int .i64 i))
  (hQ:∀dY,Ik tm dY->dY 6=.sc (.int .i64 (eX fX s i))->Q (.exit 5) ⟨dY,[]⟩ h):hJ (aw Pg 121 W fy.pl fy.c3) Q QP ⟨tm,[]⟩ h:=by
 refine gY (ι:=Nat) (fun j s' h'=>s'.ds=[]/\h'=h/\Ik tm s'.tm/\s'.tm 6=.sc (.int .i64 j)/\eX fX s j=eX fX s i) (fun j=>s.size-j) i ⟨rfl,rfl,⟨rfl,rfl,rfl⟩,h6,rfl⟩ ?_
 rintro j ⟨dY,ds⟩ h' ⟨rfl,rfl,⟨k0,k5,k8⟩,k6,hr⟩
 rw[fy.l3]
 simp only at k0 k5 k8 k6
 rw[h0]at k0
 rw[eX]at hr
 by_cases hj:j<s.size
 ·have hw:IntKind.i64.wrap (↑j+1)=((j+1:Nat):Int):=by rw[aR (by omega) (by omega)];simp
  rw[dif_pos hj]at hr
  simp[k0,k6,hj]
  refine⟨fun _=>False,fun _ h=>h.elim,vL ?_⟩
  have out:fX ((s[j].toNat:Nat):Int)=false->∀c_,Ik tm c_->c_ 6=dY 6->Q (.exit 5) ⟨c_,[]⟩ h':=by
   intro hp c_ e1 e2
   simp only[hp,zE,if_false]at hr
   exact hQ _ e1 (by rw[e2,k6,hr])
  have on:fX ((s[j].toNat:Nat):Int)=true->eX fX s (j+1)=eX fX s i:=by
   intro hp;simpa only[hp,zV] using hr
  cases hl:gW ((s[j].toNat:Nat):Int)
  ·simp[k0,k6,hj]
   refine⟨fun _=>False,fun _ h=>h.elim,yg ?_⟩
   cases hd:isDigit ((s[j].toNat:Nat):Int)
   ·simp
    refine out (by simp[fX,hl,hd]) _ ⟨?_,?_,?_⟩ ?_<;>simp[k0,k5,k8,h0,k6]
   ·simp[k6]
    refine⟨j+1,by omega,⟨?_,?_,?_⟩,?_,on (by simp[fX,hd])⟩<;>simp[k0,k5,k8,h0,hw]
  ·simp[k6]
   refine⟨j+1,by omega,⟨?_,?_,?_⟩,?_,on (by simp[fX,hl])⟩<;>simp[k0,k5,k8,h0,hw]
 ·rw[dif_neg hj]at hr
  have X_:¬(j:Int)<s.size:=by omega
  simp[k0,k6,hj]
  refine hQ _ ⟨?_,?_,?_⟩ ?_<;>simp[k0,k5,k8,h0,k6,hr]
end
section
open Go.Ab
theorem Bc{W:Nat->Prop}{h:AH}{s:ByteArray}{i j:Nat}{k:Int}{acc:List Tok}{x5:AV}{K:AV->AV->AV->AV->AH->Prop}{jz:Int}(hjz:jz=(j:Int))(h5:cl Tok.enc 3 84 h x5 acc)(hw:dC W x5)(hij:i<=j)(BU:j<=s.size)(hn:acc.length<=100000000)
  (hK:∀t1 t2 t3 y h',cl Tok.enc 3 84 h' y (acc++[⟨k,s.extract i j,i⟩])->dC (h.next<=·) y->(∀i,i<h.next->(∀off n,x5≠.sl i off n)->h'.obj i=h.obj i)->h.next<=h'.next->K t1 t2 t3 y h') :
  qk (.sc (.string s)) (some (.sc (.int .i64 i))) (some (.sc (.int .i64 jz))) fun t1=>
  cN (some ([.int .i64 0,.string ⟨#[]⟩,.int .i64 0],.inl [(0,1),(1,1),(2,1)])) [(0,.sc (.int .i64 k)),(1,t1),(2,.sc (.int .i64 i))] fun t2=>
  dG (some (3,84,[.int .i64 0,.string ⟨#[]⟩,.int .i64 0])) 1 [(0,t2)] h fun t3 h4=>
  fE (some (3,32,84)) x5 t3 h4 W (K t1 t2 t3):=by
 subst hjz
 simp only[qk,tf]
 refine⟨i,j,rfl,rfl,⟨by omega,by omega,by omega⟩,?_⟩
 refine⟨Tok.enc ⟨k,s.extract i j,i⟩,rfl,?_⟩
 exact OT (f:=Tok.enc) Tok.bu (by decide) rfl Tok.hZ (by decide) h5 hw hn (hK _ _ (.sl h.next 0 1))
theorem MZ{h:AH}{s:ByteArray}{M:Nat->Prop}{R:AE->AH->Prop}(hR:y3 s h R):aA Pg 13 [.sc (.string s)] h M R:=by
 apply fy.calls
 unfold y3 at hR
 simp only[fy.BG,fy.uN,fy.xJ]
 by_cases hb:65536<s.size
 ·rw[zX hb]at hR
  have sQ:(65536:Int)<s.size:=by omega
  simp[-fy.BH,sQ]
  exact hR h (zU _) fun _ _=>rfl
 rw[zW hb]at hR
 have hs:s.size<9223372036854775807:=by omega
 have sQ:¬(65536:Int)<s.size:=by omega
 simp[-fy.uO,sQ]
 unfold fy.uO
 refine gY (ι:=Nat×List Tok) (ug s h) (fun i=>s.size-i.1) (0,[]) ?_ ?_
 ·simp[ug]
  exact⟨.nil,by intro id off n h;cases h⟩
 rintro⟨i,acc⟩ ⟨tm,ds⟩ h' ⟨rfl,h0,h6,h5,lC,nW,NO,dI,hn,hf⟩
 simp only at h0 h6 h5 lC nW dI NO
 rw[fy.l1]
 rw[fB]at dI
 simp only[fy.zf,fy.zg]
 by_cases hi:i<s.size
 ·rw[dif_pos hi]at dI
  have hw:IntKind.i64.wrap (↑i+1)=((i+1:Nat):Int):=by rw[aR (by omega) (by omega)];simp
  have rQ:fU s i=s[i].toNat:=by simp[fU,hi]
  simp only[fy.wA,fy.xK]
  simp[-fy.rN,h0,h6,hi]
  generalize hc:((s[i].toNat:Nat):Int)=c at *
  rw[rQ]at dI
  have skip:∀j,i<j->j<=s.size->fB s j acc=fB s 0 []->∀(dY:Nat->AV) ,dY 0=.sc (.string s)->dY 5=tm 5->dY 6=.sc (.int .i64 j) ->
    ∃a,s.size-a<s.size-i/\∃x:List Tok,ug s h (a,x) ⟨dY,[]⟩ h':=by
   intro j Qx BW BV dY e0 e5 e6
   exact⟨j,by omega,acc,rfl,e0,e6,by simpa[e5] using h5,by simpa[e5] using lC,by simp only;omega,BW,BV,hn,hf⟩
  have uL:∀j t,i<j->j<=s.size->fB s j (acc++[t])=fB s 0 []->∀(dY:Nat->AV)(h2:AH),dY 0=.sc (.string s)->dY 6=.sc (.int .i64 j)->cl Tok.enc 3 84 h2 (dY 5) (acc++[t])->dC (h'.next<=·) (dY 5) ->
    (∀i,i<h'.next->(∀off n,tm 5≠.sl i off n)->h2.obj i=h'.obj i)->h'.next<=h2.next->∃a,s.size-a<s.size-i/\∃x:List Tok,ug s h (a,x) ⟨dY,[]⟩ h2:=by
   intro j t Qx BW BV dY h2 e0 e6 e5 Vz e7 e8
   refine⟨j,by omega,acc++[t],rfl,e0,e6,e5,?_,?_,BW,BV,by omega,?_⟩
   ·intro id off n he;exact zR hn (Vz id off n he)
   ·simp;omega
   ·intro q hq
    rw[e7 q (by omega) ?_];exact hf q hq
    intro off n he
    have:=lC q off n he
    simp only at this;omega
  have hW:dC (fun id=>M id\/h.next<=id) (tm 5):=fun id off n he=>.inr (lC id off n he)
  simp only[fy.rN]
  simp[-fy.lu]
  refine⟨fun _=>False,fun _ h=>h.elim,OO ?_⟩
  simp only[fy.lu]
  cases H7:ly c
  ·simp only[mG,H7,zE,if_false]at dI
   simp only[fy.pU,fy.oW]
   cases kK:c==35
   ·simp only[kK,zE,if_false]at dI
    simp[-fy.oA,-fy.k9,kK]
    refine⟨fun _=>False,fun _ h=>h.elim,vL ?_⟩
    simp only[fy.oA]
    cases hl:gW c
    ·simp only[hl,zE,if_false]at dI
     simp[-fy.nM,-fy.lx]
     refine⟨fun _=>False,fun _ h=>h.elim,yg ?_⟩
     simp only[fy.nM]
     cases hd:isDigit c
     ·simp only[hd,zE,if_false]at dI
      simp[-fy.py,-fy.mH]
      refine⟨fun _=>False,fun _ h=>h.elim,K4 ?_⟩
      cases FN:jY c
      ·simp only[FN,zE,if_false]at dI
       rw[<-dI]at hR
       simp[-fy.nN,h6]
       exact hR _ hn hf
      ·simp only[FN,zV]at dI
       rw[zX (by omega)]at dI
       simp only[fy.py,fy.nN,fy.oX]
       simp[-cN,-dU,-bt,-aV,-aE,h0,h6,hw]
       refine Bc (s:=s) (i:=i) (j:=i+1) (k:=3) (acc:=acc) (x5:=tm 5) (jz:=(i:Int)+1) (by simp) h5 hW (by omega) (by omega) (by omega) ?_
       intro t1 t2 t3 y h2 e1 e2 e3 e4
       refine uL _ _ (by omega) (by omega) dI _ _ ?_ ?_ ?_ ?_ e3 e4<;>simp[h0,h6,hw,e1,e2]
     ·simp only[hd,zV]at dI
      have hg:=ss isDigit s i hi (by rw[rQ];exact hd)
      simp[-fy.mH]
      unfold fy.mH
      refine Wh (s:=s) (i:=i) hs (by simp[h0]) (by simp[h6]) ?_
      rintro dY ⟨e0,e5,e8⟩ e6
      simp[h0,h6]at e0 e5 e8
      simp only[df,zV,bJ]
      generalize eX isDigit s i=j at *
      simp only[fy.mI,fy.mj]
      by_cases hj:j<s.size
      ·have Va:fU s j=s[j].toNat:=by simp[fU,hj]
       simp[-fy.kV,e0,e6,hj]
       refine⟨fun _=>False,fun _ h=>h.elim,vL ?_⟩
       rw[Va]at dI
       simp only[fy.kV,fy.nf]
       cases Ln:gW (s[j].toNat:Nat)
       ·simp only[Ln,Bool.and_false,zE,if_false]at dI
        rw[zX hg.1]at dI
        simp[-cN,-dU,-bt,-aV,-aE,e0,e5,e6,e8]
        refine Bc (s:=s) (i:=i) (j:=j) (k:=2) (acc:=acc) (x5:=tm 5) rfl h5 hW (by omega) (by omega) (by omega) ?_
        intro t1 t2 t3 y h2 e1 e2 e3 e4
        refine uL _ _ (by omega) (by omega) dI _ _ ?_ ?_ ?_ ?_ e3 e4<;>simp[e0,e6,e1,e2]
       ·simp only[Ln,hj,decide_true,Bool.and_true,zV]at dI
        rw[<-dI]at hR
        simp[-fy.ml,e6]
        exact hR _ hn hf
      ·simp only[hj,decide_false,Bool.false_and,zE,if_false]at dI
       rw[zX hg.1]at dI
       simp[-cN,-dU,-bt,-aV,-aE,e0,e5,e6,e8,hj]
       refine Bc (s:=s) (i:=i) (j:=j) (k:=2) (acc:=acc) (x5:=tm 5) rfl h5 hW (by omega) (by omega) (by omega) ?_
       intro t1 t2 t3 y h2 e1 e2 e3 e4
       refine uL _ _ (by omega) (by omega) dI _ _ ?_ ?_ ?_ ?_ e3 e4<;>simp[e0,e6,e1,e2]
    ·simp only[hl,zV]at dI
     have hg:=ss fX s i hi (by rw[rQ];simp[fX,hl])
     rw[zX hg.1]at dI
     simp[-fy.lx]
     unfold fy.lx
     refine Wi (s:=s) (i:=i) hs (by simp[h0]) (by simp[h6]) ?_
     rintro dY ⟨e0,e5,e8⟩ e6
     simp[h0,h6]at e0 e5 e8
     simp[-cN,-dU,-bt,-aV,-aE,e0,e5,e6,e8]
     refine Bc (s:=s) (i:=i) (j:=eX fX s i) (k:=1) (acc:=acc) (x5:=tm 5) rfl h5 hW (by omega) (by omega) (by omega) ?_
     intro t1 t2 t3 y h2 e1 e2 e3 e4
     refine uL _ _ (by omega) (by omega) dI _ _ ?_ ?_ ?_ ?_ e3 e4<;>simp[e0,e6,e1,e2]
   ·simp only[kK,zV]at dI
    have hg:=ss (fun c=>c != 10) s i hi (by rw[rQ];simp at kK;simp[kK])
    rw[zX hg.1]at dI
    simp[-fy.pt,-fy.k9,kK]
    unfold fy.k9
    refine Wj (s:=s) (i:=i) hs (by simp[h0]) (by simp[h6]) ?_
    rintro dY ⟨e0,e5,e8⟩ e6
    simp[h0,h6]at e0 e5 e8
    simp
    refine skip _ hg.1 hg.2 dI _ ?_ ?_ ?_<;>simp[e0,e5,e6]
  ·simp only[mG,H7,zV]at dI
   rw[zX (by omega)]at dI
   simp[-fy.pU,h6,hw]
   refine skip (i+1) (by omega) (by omega) dI _ ?_ ?_ ?_<;>simp[h0]
 ·rw[dif_neg hi]at dI
  rw[<-dI]at hR
  have hi':¬(i:Int)<s.size:=by omega
  simp[-fy.wA,h0,h6,hi]
  exact hR _ _ h5 lC hn hf
end
end Go.Proofs.YtjehibknlmehmaaGreat
