/- Contracts of the byte functions, of strings.IndexByte by the shelf, and of the scanner. No condition. -/
import Derived.Shelf.Small.Strs
import Derived.Test.YtjehibknlmehmaaGreatDoorProg
import Derived.Test.YtjehibknlmehmaaGreatDoorGs
set_option maxRecDepth 100000
namespace Go.Proofs.YtjehibknlmehmaaGreatDoor
open Go.Ab
def eY(c:Int):Bool:=decide (97<=c)&&decide (c<=122)||decide (65<=c)&&decide (c<=90)||c==95
def isDigit(c:Int):Bool:=decide (48<=c)&&decide (c<=57)
def tL(c:Int):Bool:=c==9||c==10||c==13||c==32
def rp(c:Int):Bool:=c==123||c==125||c==91||c==93||c==59||c==44
def tf(g:FuncId)(p:Int->Bool):Prop:=∀{h:AH}{c:Int}{M:Nat->Prop}{R:AE->AH->Prop},R (.ret (.sc (.bool (p c)))) h->ay Pg g [.sc (.int .u8 c)] h M R
theorem zr:tf 57 isDigit:=by
 intro h c M R hR
 apply Y9.calls
 by_cases h1:48<=c<;>by_cases h2:c<=57<;>simpa[h1,h2,isDigit] using hR
theorem Dt:tf 115 isDigit:=by
 intro h c M R hR
 apply V4.calls
 by_cases h1:48<=c<;>by_cases h2:c<=57<;>simpa[h1,h2,isDigit] using hR
theorem sG:tf 55 eY:=by
 intro h c M R hR
 apply Y_.calls
 by_cases h1:97<=c<;>by_cases h2:c<=122<;>by_cases h3:65<=c<;>by_cases h4:c<=90<;>by_cases h5:c=95<;>simpa[h1,h2,h3,h4,h5,eY] using hR
theorem Iw:tf 116 eY:=by
 intro h c M R hR
 apply V3.calls
 by_cases h1:97<=c<;>by_cases h2:c<=122<;>by_cases h3:65<=c<;>by_cases h4:c<=90<;>by_cases h5:c=95<;>simpa[h1,h2,h3,h4,h5,eY] using hR
theorem MN:tf 54 (fun c=>c != 10):=by
 intro h c M R hR
 apply Za.calls
 simpa using hR
theorem CX:tf 56 (fun c=>eY c||isDigit c):=by
 intro h c M R hR
 apply HR.calls
 simp only[HR.k5,HR.k4]
 refine⟨fun _=>False,fun _ h=>h.elim,sG ?_⟩
 cases h1:eY c
 ·simp[-HR.k3,HR.k3]
  refine⟨fun _=>False,fun _ h=>h.elim,zr ?_⟩
  simpa[h1] using hR
 ·simpa[h1] using hR
def fE(p:Int->Bool)(s:ByteArray)(at_:Nat):Nat:=
 if h:at_<s.size then(if p s[at_].toNat then fE p s (at_+1) else at_) else at_
termination_by s.size-at_
theorem Av{g:FuncId}{p:Int->Bool}(hg:tf g p)(he:xN Pg g=true){s:ByteArray}{at_:Nat}{h:AH}{M:Nat->Prop}{R:AE->AH->Prop}(hs:s.size<9223372036854775807)(hR:R (.ret (.sc (.int .i64 (fE p s at_)))) h) :
  ay Pg 53 [.sc (.string s),.sc (.int .i64 at_),.fn (.func g) [] []] h M R:=by
 apply L1.calls
 simp only[L1.k8,L1.k7]
 refine nK (ι:=Nat) (fun i s' h'=>h'=h/\s'.ds=[]/\s'.tm 0=.sc (.string s)/\s'.tm 1=.sc (.int .i64 i)/\s'.tm 2=.fn (.func g) [] []/\fE p s i=fE p s at_) (fun i=>s.size-i) at_ ?_ ?_
 ·simp
 rintro i ⟨tm,ds⟩ h' ⟨rfl,rfl,h0,h1,h2,hr⟩
 rw[L1.l1]
 simp only at h0 h1 h2
 rw[fE]at hr
 by_cases hi:i<s.size
 ·have Yp:s[i]?=some s[i]:=by simp[hi]
  simp[h0,h1,h2,hi,Gb,he]
  refine⟨fun _=>False,fun _ h=>h.elim,hg ?_⟩
  simp only[hi,dif_pos]at hr
  have hw:IntKind.i64.wrap (↑i+1)=((i+1:Nat):Int):=by rw[aL (by omega) (by omega)];simp
  cases hp:p s[i].toNat
  ·simp only[hp,zE,if_false]at hr
   simpa[hr] using hR
  ·simp only[hp,zV]at hr
   simp only[ao]
   exact⟨fun _=>⟨i+1,by omega,trivial,hw,hr⟩,fun h=>by cases h⟩
 ·simp[h0,h1,h2,hi]
  simp[hi]at hr
  rw[hr];exact hR
end Go.Proofs.YtjehibknlmehmaaGreatDoor
namespace Go.Proofs
open Go.Shelf
def Tryz.GH:Go.Shelf.Ren:={ f:=fun x=>match x with |137=>58 |217=>85 |266=>112 |n=>n,t:=fun x=>match x with |9=>9 |5=>5 |3=>3 |n=>n,g:=fun n=>n }
theorem Tryz.RA:Lays.n137 Tryz.prog Tryz.GH where
 mixed:=by kernel_rfl
 f137:=Tryz.func58.trans (congrArg some (by kernel_rfl))
 f217:=Tryz.func85.trans (congrArg some (by kernel_rfl))
 f266:=Tryz.func112.trans (congrArg some (by kernel_rfl))
 t3:=Tryz.underlying3
 a3:=Tryz.isAgg3
 z3:=Tryz.sizeOf3
 v3:=Tryz.zeroValue3
 t5:=Tryz.underlying5
 a5:=Tryz.isAgg5
 z5:=Tryz.sizeOf5
 v5:=Tryz.zeroValue5
 t9:=Tryz.underlying9
 a9:=Tryz.isAgg9
 z9:=Tryz.sizeOf9
 v9:=Tryz.zeroValue9
theorem Tryz.strings_IndexByte(s:ByteArray)(c:Int)(w:World) :
  Calls Tryz.prog 58 #[.string s,.int .u8 c] w fun e w'=>e=.returned (.int .i64 (Lib.indexByte s.data.toList c.toNat.toUInt8))/\w'=w:=Any.strings_IndexByte Tryz.RA s c w
end Go.Proofs
namespace Go.Proofs.YtjehibknlmehmaaGreatDoor
open Go.Ab
structure Tok where
 kind:Int
 text:ByteArray
 at_:Int
def Tok.enc(t:Tok):List AV:=[.sc (.int .i64 t.kind),.sc (.string t.text),.sc (.int .i64 t.at_)]
theorem Tok.ci(t:Tok):t.enc.length=3:=rfl
theorem Tok.gL(t:Tok):t.enc.all cB=true:=rfl
inductive Qu where
 |skip (i:Nat)
 |tok (t:Tok) (i:Nat)
 |err (i:Nat)
def eU(c:Int):Bool:=eY c||isDigit c
def dL(s:ByteArray)(i:Nat):Int:=match s[i]? with |some c=>c.toNat |none=>0
def sF(s:ByteArray)(i:Nat)(c:Int):Qu:=
 if tL c then .skip (i+1)
 else if c==35 then .skip (fE (fun c=>c != 10) s i)
 else if eY c then .tok ⟨1,s.extract i (fE eU s i),i⟩ (fE eU s i)
 else if isDigit c then(if decide (fE isDigit s i<s.size)&&eY (dL s (fE isDigit s i)) then .err (fE isDigit s i) else .tok ⟨2,s.extract i (fE isDigit s i),i⟩ (fE isDigit s i))
 else if rp c then .tok ⟨3,s.extract i (i+1),i⟩ (i+1)
 else .err i
def iZ(s:ByteArray)(i:Nat)(acc:List Tok):Except Nat (List Tok):=
 if h:i<s.size then
  match sF s i (dL s i) with
  |.skip j=>if i<j then iZ s j acc else .error 0
  |.tok t j=>if i<j then iZ s j (acc++[t]) else .error 0
  |.err j=>.error j
 else .ok acc
termination_by s.size-i
theorem EN{h:AH}{s:ByteArray}{c:Int}{M:Nat->Prop}{R:AE->AH->Prop}(hR:R (.ret (.sc (.int .i64 (Lib.indexByte s.data.toList c.toNat.toUInt8)))) h):ay Pg 58 [.sc (.string s),.sc (.int .u8 c)] h M R:=by
 intro E w dY hr ha
 cases ha with
 |cons h1 h2=>
  cases h2 with
  |cons h3 h4=>
   cases h4;cases h1;cases h3
   refine(Tryz.strings_IndexByte s c w).mono ?_
   rintro e w' ⟨rfl,rfl⟩
   exact⟨E,h,.ret (.sc (.int .i64 _)),Step.refl hr,VR.sc _,hR⟩
theorem QO(c:UInt8):decide (Lib.indexByte [123,125,91,93,59,44] c<0)=!rp c.toNat:=by
 have key:∀n:Fin 256,decide (Lib.indexByte [123,125,91,93,59,44] (UInt8.ofNat n)<0)=!rp ((UInt8.ofNat n).toNat:Nat):=by decide +kernel
 have:=key ⟨c.toNat,c.toNat_lt⟩
 simpa using this
theorem QY(p:Int->Bool)(s:ByteArray):∀(n i:Nat),s.size-i=n->i<=s.size->i<=fE p s i/\fE p s i<=s.size:=by
 intro n
 induction n with
 |zero=>intro i h1 h2;rw[fE,dif_neg (by omega)];omega
 |succ n ih=>
  intro i h1 h2
  rw[fE,dif_pos (by omega)]
  split
  ·have:=ih (i+1) (by omega) (by omega);omega
  ·omega
theorem BQ(p:Int->Bool)(s:ByteArray)(i:Nat)(h:i<s.size)(hp:p (dL s i)=true):i<fE p s i/\fE p s i<=s.size:=by
 rw[fE,dif_pos h]
 have:dL s i=s[i].toNat:=by simp[dL,h]
 rw[<-this,zX hp]
 have:=QY p s _ (i+1) rfl (by omega)
 omega
def Jm(s:ByteArray)(h:AH)(R:AE->AH->Prop):Prop:=
 if 65536<s.size then ∀h',h.next<=h'.next->(∀i,i<h.next->h'.obj i=h.obj i)->R (.ret (.cM [aV,.sc (.int .i64 0),.sc (.int .i64 1)])) h'
 else match iZ s 0 [] with
 |.ok l=>∀x h',bw Tok.enc 3 117 h' x l->cz (h.next<=·) x->h.next<=h'.next->(∀i,i<h.next->h'.obj i=h.obj i)->R (.ret (.cM [x,.sc (.int .i64 0),.sc (.int .i64 0)])) h'
 |.error p=>∀h',h.next<=h'.next->(∀i,i<h.next->h'.obj i=h.obj i)->R (.ret (.cM [aV,.sc (.int .i64 p),.sc (.int .i64 90)])) h'
def uW(n:Nat)(tm iJ:Nat->AV):Prop:=∀i,i<n->iJ i=tm i
theorem uW.refl{n:Nat}{tm:Nat->AV}:uW n tm tm:=fun _ _=>rfl
theorem uW.eZ{n d:Nat}{tm iJ:Nat->AV}{v:AV}(h:uW n tm iJ)(hd:n<=d):uW n tm (Go.Ab.eZ iJ d v):=fun i hi=>by rw[lY (by omega)];exact h i hi
theorem L5{W:Nat->Prop}{Q:cG}{QP:cm}{tm:Nat->AV}{ds:List fi}{h:AH}{c:Int}(h7:tm 7=.sc (.int .u8 c))
  (hy:tL c=true->∀iJ,uW 10 tm iJ->gz.k4 W Q QP ⟨iJ,ds⟩ h) (hn:tL c=false->∀iJ,uW 10 tm iJ->gz.oE W Q QP ⟨iJ,ds⟩ h):gz.yj W Q QP ⟨tm,ds⟩ h:=by
 unfold tL at hy hn
 cases e9:c==9<;>cases YT:c==10<;>cases YS:c==13<;>cases Qk:c==32 <;>
 simp only[e9,YT,YS,Qk,Bool.or_true,Bool.or_false,Bool.true_or,Bool.false_or,zD,zE,zC,zF]at hy hn <;>
 simp[-gz.oE,-gz.k4,h7,e9,YT,YS,Qk] <;>
 (first |refine hy _ ?_ |refine hn _ ?_)<;>repeat (first |exact uW.refl |refine uW.eZ ?_ (Nat.le_of_ble_eq_true rfl))
theorem xV{W:Nat->Prop}{Q:cG}{QP:cm}{tm:Nat->AV}{h:AH}{s:ByteArray}{i j:Nat}{k:Int}{acc:List Tok}{x5:AV}(h5x:tm 5=x5)(h0:tm 0=.sc (.string s))(h6:tm 6=.sc (.int .i64 i))(h8:tm 8=.sc (.int .i64 j))(h9:tm 9=.sc (.int .i64 k))
  (h5:bw Tok.enc 3 117 h x5 acc) (hw:cz W x5) (Hk:i<=j) (Hj:j<=s.size) (hn:acc.length<=100000000)
  (hK:∀iJ h',iJ 0=.sc (.string s)->iJ 6=.sc (.int .i64 j)->bw Tok.enc 3 117 h' (iJ 5) (acc++[⟨k,s.extract i j,i⟩])->cz (h.next<=·) (iJ 5)->(∀i,i<h.next->(∀off n,x5≠.sl i off n)->h'.obj i=h.obj i)->h.next<=h'.next->Q .normal ⟨iJ,[]⟩ h') :
  gz.k3 W Q QP ⟨tm,[]⟩ h:=by
 simp only[gz.k3,h5x,h0,h6,h8,h9,vU,s7]
 refine⟨i,j,rfl,rfl,⟨by omega,by omega,by omega⟩,?_⟩
 refine⟨Tok.enc ⟨k,s.extract i j,i⟩,rfl,?_⟩
 refine Vy (f:=Tok.enc) Tok.ci (by decide) rfl Tok.gL (by decide) h5 hw hn ?_
 intro y h' e1 e2 e3 e4
 simp only[gz.k2]
 refine hK _ _ ?_ ?_ ?_ ?_ e3 e4
 ·simp[h0]
 ·simp[h8]
 ·simpa using e1
 ·simpa using e2
def D0(s:ByteArray)(h:AH)(x:Nat×List Tok)(s':St)(h':AH):Prop:=
 s'.ds=[]/\s'.tm 0=.sc (.string s)/\s'.tm 6=.sc (.int .i64 x.1)/\bw Tok.enc 3 117 h' (s'.tm 5) x.2/\cz (h.next<=·) (s'.tm 5)/\x.2.length<=x.1/\x.1<=s.size/\iZ s x.1 x.2=iZ s 0 []/\h.next<=h'.next/\(∀i,i<h.next->h'.obj i=h.obj i)
theorem QX{h:AH}{s:ByteArray}{M:Nat->Prop}{R:AE->AH->Prop}(hR:Jm s h R):ay Pg 33 [.sc (.string s)] h M R:=by
 apply gz.calls
 unfold Jm at hR
 simp only[gz.yd,gz.AN,gz.ye]
 by_cases hb:65536<s.size
 ·rw[zX hb]at hR
  have jI:(65536:Int)<s.size:=by omega
  simp[jI]
  exact hR h (zU _) fun _ _=>rfl
 rw[zW hb]at hR
 have hs:s.size<9223372036854775807:=by omega
 have jI:¬(65536:Int)<s.size:=by omega
 simp[-gz.yg,jI]
 unfold gz.yg
 refine nK (ι:=Nat×List Tok) (D0 s h) (fun i=>s.size-i.1) (0,[]) ?_ ?_
 ·simp[D0]
  exact⟨.nil,by intro id off n h;cases h⟩
 rintro⟨i,acc⟩ ⟨tm,ds⟩ h' ⟨rfl,h0,h6,h5,fe,tp,aaI,ic,hn,hf⟩
 simp only at h0 h6 h5 fe tp ic aaI
 rw[gz.l1]
 rw[iZ]at ic
 by_cases hi:i<s.size
 ·rw[dif_pos hi]at ic
  simp only[gz.wm,gz.yh,gz.yi,gz.AP]
  have hw:IntKind.i64.wrap (↑i+1)=((i+1:Nat):Int):=by rw[aL (by omega) (by omega)];simp
  have wJ:dL s i=s[i].toNat:=by simp[dL,hi]
  have oG:=QO s[i]
  have hsu:((s[i].toNat:Int).toNat.toUInt8)=s[i]:=by simp
  simp[-gz.yj,h0,h6,hi,hw]
  have aaS:(((s[i].toNat:Nat):Int)).toNat.toUInt8=s[i]:=by simp
  generalize hc:((s[i].toNat:Nat):Int)=c at *
  rw[wJ]at ic
  have skip:∀j,i<j->j<=s.size->iZ s j acc=iZ s 0 []->∀(iJ:Nat->AV) ,iJ 0=.sc (.string s)->iJ 5=tm 5->iJ 6=.sc (.int .i64 j) ->
    ∃a,s.size-a<s.size-i/\∃x:List Tok,D0 s h (a,x) ⟨iJ,[]⟩ h':=by
   intro j Ym K4 K3 iJ e0 e5 e6
   exact⟨j,by omega,acc,rfl,e0,e6,by simpa[e5] using h5,by simpa[e5] using fe,by simp only;omega,K4,K3,hn,hf⟩
  have Ha:∀j t,i<j->j<=s.size->iZ s j (acc++[t])=iZ s 0 []->∀(iJ:Nat->AV)(h2:AH),iJ 0=.sc (.string s)->iJ 6=.sc (.int .i64 j)->bw Tok.enc 3 117 h2 (iJ 5) (acc++[t])->cz (h'.next<=·) (iJ 5) ->
    (∀i,i<h'.next->(∀off n,tm 5≠.sl i off n)->h2.obj i=h'.obj i)->h'.next<=h2.next->∃a,s.size-a<s.size-i/\∃x:List Tok,D0 s h (a,x) ⟨iJ,[]⟩ h2:=by
   intro j t Ym K4 K3 iJ h2 e0 e6 e5 e5' e7 e8
   refine⟨j,by omega,acc++[t],rfl,e0,e6,e5,?_,?_,K4,K3,by omega,?_⟩
   ·intro id off n he;exact zR hn (e5' id off n he)
   ·simp;omega
   ·intro q hq
    rw[e7 q (by omega) ?_];exact hf q hq
    intro off n he
    have:=fe q off n he
    simp only at this;omega
  refine L5 (c:=c) (by simp) ?_ ?_
  ·intro Hn iJ mK
   simp only[sF,Hn,zV]at ic
   rw[zX (by omega)]at ic
   have e0:=mK 0 (by decide);have e5:=mK 5 (by decide);have e6:=mK 6 (by decide)
   simp[h0,h6]at e0 e5 e6
   simp only[gz.k4,e6,aR,hw,b_]
   refine skip (i+1) (by omega) (by omega) ic _ ?_ ?_ ?_<;>simp[e0,e5]
  intro Hn iJ mK
  have e0:=mK 0 (by decide);have e5:=mK 5 (by decide);have e6:=mK 6 (by decide);have e7:=mK 7 (by decide);have e8:=mK 8 (by decide);have e9:=mK 9 (by decide)
  simp[h0,h6]at e0 e5 e6 e7 e8 e9
  clear mK
  simp only[gz.oE,gz.oU,e7,dD]
  simp only[sF,Hn,zE,if_false]at ic
  cases rW:c==35
  ·simp only[rW,zE,if_false]at ic
   simp[-gz.jb,e7]
   refine⟨fun _=>False,fun _ h=>h.elim,sG ?_⟩
   have hW:cz (fun id=>M id\/h.next<=id) (tm 5):=fun id off n he=>.inr (fe id off n he)
   simp only[gz.jb]
   cases hl:eY c
   ·simp only[hl,zE,if_false]at ic
    simp[-gz.iR,e7]
    refine⟨fun _=>False,fun _ h=>h.elim,zr ?_⟩
    simp only[gz.iR]
    cases hd:isDigit c
    ·simp only[hd,zE,if_false]at ic
     simp[-gz.jh,e7]
     refine⟨fun _=>False,fun _ h=>h.elim,EN ?_⟩
     have hix:decide (Lib.indexByte [123,125,91,93,59,44] s[i]<0)=!rp c:=by rw[oG]
     simp only[ba,aaS,hix]
     cases PB:rp c
     ·simp only[PB,zE,if_false]at ic
      rw[<-ic]at hR
      simp[e6]
      exact hR _ hn hf
     ·simp only[PB,zV]at ic
      rw[zX (by omega)]at ic
      simp[-gz.k3]
      refine xV (s:=s) (i:=i) (j:=i+1) (k:=3) (acc:=acc) (x5:=tm 5) ?_ ?_ ?_ ?_ ?_ h5 hW (by omega) (by omega) (by omega) ?_<;>try (simp[e0,e5,e6,e8,e9];done)
      exact Ha _ _ (by omega) (by omega) ic
    ·simp only[hd,zV]at ic
     have hg:=BQ isDigit s i hi (by rw[wJ];exact hd)
     simp[-gz.dI,e0,e6]
     refine⟨fun _=>False,fun _ h=>h.elim,Av zr rfl hs ?_⟩
     simp only[gz.dI]
     generalize fE isDigit s i=j at *
     by_cases hj:j<s.size
     ·have hbj:dL s j=s[j].toNat:=by simp[dL,hj]
      simp[-gz.k8,e0,hj]
      refine⟨fun _=>False,fun _ h=>h.elim,sG ?_⟩
      rw[hbj]at ic
      cases Yi:eY (s[j].toNat:Nat)
      ·simp only[Yi,Bool.and_false,zE,if_false]at ic
       rw[zX hg.1]at ic
       simp[-gz.k3]
       refine xV (s:=s) (i:=i) (j:=j) (k:=2) (acc:=acc) (x5:=tm 5) ?_ ?_ ?_ ?_ ?_ h5 hW (by omega) (by omega) (by omega) ?_<;>try (simp[e0,e5,e6,e8,e9];done)
       exact Ha _ _ (by omega) (by omega) ic
      ·simp only[Yi,hj,decide_true,Bool.and_true,zV]at ic
       rw[<-ic]at hR
       simp
       exact hR _ hn hf
     ·simp only[hj,decide_false,Bool.false_and,zE,if_false]at ic
      rw[zX hg.1]at ic
      simp[-gz.k3,e0,hj]
      refine xV (s:=s) (i:=i) (j:=j) (k:=2) (acc:=acc) (x5:=tm 5) ?_ ?_ ?_ ?_ ?_ h5 hW (by omega) (by omega) (by omega) ?_<;>try (simp[e0,e5,e6,e8,e9];done)
      exact Ha _ _ (by omega) (by omega) ic
   ·simp only[hl,zV]at ic
    have hg:=BQ eU s i hi (by rw[wJ];simp[eU,hl])
    rw[zX hg.1]at ic
    simp[-gz.k3,-gz.jR,e0,e6]
    refine⟨fun _=>False,fun _ h=>h.elim,Av (show tf 56 eU from CX) rfl hs ?_⟩
    refine xV (s:=s) (i:=i) (j:=fE eU s i) (k:=1) (acc:=acc) (x5:=tm 5) ?_ ?_ ?_ ?_ ?_ h5 hW (by omega) (by omega) (by omega) ?_<;>try (simp[e0,e5,e6,e8,e9];done)
    exact Ha _ _ (by omega) (by omega) ic
  ·simp only[rW,zV]at ic
   have hg:=BQ (fun c=>c != 10) s i hi (by rw[wJ];simp at rW;simp[rW])
   rw[zX hg.1]at ic
   simp[-gz.oV,gz.k5,e0,e6]
   refine⟨fun _=>False,fun _ h=>h.elim,Av MN rfl hs ?_⟩
   refine skip _ hg.1 hg.2 ic _ ?_ ?_ ?_<;>simp[e0,e5]
 ·rw[dif_neg hi]at ic
  rw[<-ic]at hR
  have hi':¬(i:Int)<s.size:=by omega
  simp only[gz.wm,gz.yh]
  simp[-gz.yi,h0,h6,hi]
  exact hR _ _ h5 fe hn hf
end Go.Proofs.YtjehibknlmehmaaGreatDoor
