/- Contracts of the byte functions, of strings.IndexByte by the shelf, and of lex.Scan. No condition. -/
import Derived.Shelf.Small.Strs
import Derived.Test.YtjehibknlmehmaaProg
import Derived.Test.YtjehibknlmehmaaGs
set_option maxRecDepth 100000
namespace Go.Proofs.Ytjehibknlmehmaa
open Go.Ab
def jR(c:Int):Bool:=decide (97<=c)&&decide (c<=122)||decide (65<=c)&&decide (c<=90)||c==95
def isDigit(c:Int):Bool:=decide (48<=c)&&decide (c<=57)
def tS(c:Int):Bool:=c==9||c==10||c==13||c==32
def ri(c:Int):Bool:=c==123||c==125||c==91||c==93||c==59||c==44
def yh(g:FuncId)(p:Int->Bool):Prop:=∀{h:AH}{c:Int}{M:Nat->Prop}{R:AE->AH->Prop},R (.ret (.sc (.bool (p c)))) h->aE Pg g [.sc (.int .u8 c)] h M R
theorem An:yh 69 isDigit:=by
 intro h c M R hR
 apply YR.calls
 by_cases h1:48<=c<;>by_cases h2:c<=57<;>simpa[h1,h2,isDigit] using hR
theorem wN:yh 67 jR:=by
 intro h c M R hR
 apply YS.calls
 by_cases h1:97<=c<;>by_cases h2:c<=122<;>by_cases h3:65<=c<;>by_cases h4:c<=90<;>by_cases h5:c=95<;>simpa[h1,h2,h3,h4,h5,jR] using hR
theorem MT:yh 66 (fun c=>c != 10):=by
 intro h c M R hR
 apply YT.calls
 simpa using hR
theorem Kx:yh 68 (fun c=>jR c||isDigit c):=by
 intro h c M R hR
 apply HY.calls
 simp only[HY.k5,HY.k4]
 refine⟨fun _=>False,fun _ h=>h.elim,wN ?_⟩
 cases h1:jR c
 ·simp[-HY.k3,HY.k3]
  refine⟨fun _=>False,fun _ h=>h.elim,An ?_⟩
  simpa[h1] using hR
 ·simpa[h1] using hR
def iL(p:Int->Bool)(s:ByteArray)(at_:Nat):Nat:=
 if h:at_<s.size then(if p s[at_].toNat then iL p s (at_+1) else at_) else at_
termination_by s.size-at_
theorem EB{g:FuncId}{p:Int->Bool}(hg:yh g p)(he:xY Pg g=true){s:ByteArray}{at_:Nat}{h:AH}{M:Nat->Prop}{R:AE->AH->Prop}(hs:s.size<9223372036854775807)(hR:R (.ret (.sc (.int .i64 (iL p s at_)))) h) :
  aE Pg 65 [.sc (.string s),.sc (.int .i64 at_),.fn (.func g) [] []] h M R:=by
 apply LP.calls
 simp only[LP.k8,LP.k7]
 refine pC (ι:=Nat) (fun i s' h'=>h'=h/\s'.ds=[]/\s'.tm 0=.sc (.string s)/\s'.tm 1=.sc (.int .i64 i)/\s'.tm 2=.fn (.func g) [] []/\iL p s i=iL p s at_) (fun i=>s.size-i) at_ ?_ ?_
 ·simp
 rintro i ⟨tm,ds⟩ h' ⟨rfl,rfl,h0,h1,h2,hr⟩
 rw[LP.l1]
 simp only at h0 h1 h2
 rw[iL]at hr
 by_cases hi:i<s.size
 ·have Br:s[i]?=some s[i]:=by simp[hi]
  simp[h0,h1,h2,hi,Gu,he]
  refine⟨fun _=>False,fun _ h=>h.elim,hg ?_⟩
  simp only[hi,dif_pos]at hr
  have hw:IntKind.i64.wrap (↑i+1)=((i+1:Nat):Int):=by rw[aS (by omega) (by omega)];simp
  cases hp:p s[i].toNat
  ·simp only[hp,zE,if_false]at hr
   simpa[hr] using hR
  ·simp only[hp,zV]at hr
   simp only[aj]
   exact⟨fun _=>⟨i+1,by omega,trivial,hw,hr⟩,fun h=>by cases h⟩
 ·simp[h0,h1,h2,hi]
  simp[hi]at hr
  rw[hr];exact hR
end Go.Proofs.Ytjehibknlmehmaa
namespace Go.Proofs
open Go.Shelf
def Try.GQ:Go.Shelf.Ren:={ f:=fun x=>match x with |137=>70 |217=>86 |266=>96 |n=>n,t:=fun x=>match x with |9=>9 |5=>5 |3=>3 |n=>n,g:=fun n=>n }
theorem Try.RG:Lays.n137 Try.prog Try.GQ where
 mixed:=by kernel_rfl
 f137:=Try.func70.trans (congrArg some (by kernel_rfl))
 f217:=Try.func86.trans (congrArg some (by kernel_rfl))
 f266:=Try.func96.trans (congrArg some (by kernel_rfl))
 t3:=Try.underlying3
 a3:=Try.isAgg3
 z3:=Try.sizeOf3
 v3:=Try.zeroValue3
 t5:=Try.underlying5
 a5:=Try.isAgg5
 z5:=Try.sizeOf5
 v5:=Try.zeroValue5
 t9:=Try.underlying9
 a9:=Try.isAgg9
 z9:=Try.sizeOf9
 v9:=Try.zeroValue9
theorem Try.strings_IndexByte(s:ByteArray)(c:Int)(w:World) :
  Calls Try.prog 70 #[.string s,.int .u8 c] w fun e w'=>e=.returned (.int .i64 (Lib.indexByte s.data.toList c.toNat.toUInt8))/\w'=w:=Any.strings_IndexByte Try.RG s c w
end Go.Proofs
namespace Go.Proofs.Ytjehibknlmehmaa
open Go.Ab
structure Tok where
 kind:Int
 text:ByteArray
 at_:Int
def Tok.enc(t:Tok):List AV:=[.sc (.int .i64 t.kind),.sc (.string t.text),.sc (.int .i64 t.at_)]
theorem Tok.bL(t:Tok):t.enc.length=3:=rfl
theorem Tok.iE(t:Tok):t.enc.all cG=true:=rfl
inductive QO where
 |skip (i:Nat)
 |tok (t:Tok) (i:Nat)
 |err (i:Nat)
def nQ(c:Int):Bool:=jR c||isDigit c
def hN(s:ByteArray)(i:Nat):Int:=match s[i]? with |some c=>c.toNat |none=>0
def sG(s:ByteArray)(i:Nat)(c:Int):QO:=
 if tS c then .skip (i+1)
 else if c==35 then .skip (iL (fun c=>c != 10) s i)
 else if jR c then .tok ⟨1,s.extract i (iL nQ s i),i⟩ (iL nQ s i)
 else if isDigit c then(if decide (iL isDigit s i<s.size)&&jR (hN s (iL isDigit s i)) then .err (iL isDigit s i) else .tok ⟨2,s.extract i (iL isDigit s i),i⟩ (iL isDigit s i))
 else if ri c then .tok ⟨3,s.extract i (i+1),i⟩ (i+1)
 else .err i
def js(s:ByteArray)(i:Nat)(acc:List Tok):Except Nat (List Tok):=
 if h:i<s.size then
  match sG s i (hN s i) with
  |.skip j=>if i<j then js s j acc else .error 0
  |.tok t j=>if i<j then js s j (acc++[t]) else .error 0
  |.err j=>.error j
 else .ok acc
termination_by s.size-i
theorem E6{h:AH}{s:ByteArray}{c:Int}{M:Nat->Prop}{R:AE->AH->Prop}(hR:R (.ret (.sc (.int .i64 (Lib.indexByte s.data.toList c.toNat.toUInt8)))) h):aE Pg 70 [.sc (.string s),.sc (.int .u8 c)] h M R:=by
 intro E w gI hr ha
 cases ha with
 |cons h1 h2=>
  cases h2 with
  |cons h3 h4=>
   cases h4;cases h1;cases h3
   refine(Try.strings_IndexByte s c w).mono ?_
   rintro e w' ⟨rfl,rfl⟩
   exact⟨E,h,.ret (.sc (.int .i64 _)),Step.refl hr,VR.sc _,hR⟩
theorem Q8(c:UInt8):decide (Lib.indexByte [123,125,91,93,59,44] c<0)=!ri c.toNat:=by
 have key:∀n:Fin 256,decide (Lib.indexByte [123,125,91,93,59,44] (UInt8.ofNat n)<0)=!ri ((UInt8.ofNat n).toNat:Nat):=by decide +kernel
 have:=key ⟨c.toNat,c.toNat_lt⟩
 simpa using this
theorem Q_(p:Int->Bool)(s:ByteArray):∀(n i:Nat),s.size-i=n->i<=s.size->i<=iL p s i/\iL p s i<=s.size:=by
 intro n
 induction n with
 |zero=>intro i h1 h2;rw[iL,dif_neg (by omega)];omega
 |succ n ih=>
  intro i h1 h2
  rw[iL,dif_pos (by omega)]
  split
  ·have:=ih (i+1) (by omega) (by omega);omega
  ·omega
theorem Ca(p:Int->Bool)(s:ByteArray)(i:Nat)(h:i<s.size)(hp:p (hN s i)=true):i<iL p s i/\iL p s i<=s.size:=by
 rw[iL,dif_pos h]
 have:hN s i=s[i].toNat:=by simp[hN,h]
 rw[<-this,zX hp]
 have:=Q_ p s _ (i+1) rfl (by omega)
 omega
def Jf(s:ByteArray)(h:AH)(R:AE->AH->Prop):Prop:=
 if 65536<s.size then ∀h',h.next<=h'.next->(∀i,i<h.next->h'.obj i=h.obj i)->R (.ret (.dY [aW,.sc (.int .i64 0),.sc (.int .i64 1)])) h'
 else match js s 0 [] with
 |.ok l=>∀x h',bN Tok.enc 3 126 h' x l->cP (h.next<=·) x->h.next<=h'.next->(∀i,i<h.next->h'.obj i=h.obj i)->R (.ret (.dY [x,.sc (.int .i64 0),.sc (.int .i64 0)])) h'
 |.error p=>∀h',h.next<=h'.next->(∀i,i<h.next->h'.obj i=h.obj i)->R (.ret (.dY [aW,.sc (.int .i64 p),.sc (.int .i64 90)])) h'
def vf(n:Nat)(tm iZ:Nat->AV):Prop:=∀i,i<n->iZ i=tm i
theorem vf.refl{n:Nat}{tm:Nat->AV}:vf n tm tm:=fun _ _=>rfl
theorem vf.fk{n d:Nat}{tm iZ:Nat->AV}{v:AV}(h:vf n tm iZ)(hd:n<=d):vf n tm (Go.Ab.fk iZ d v):=fun i hi=>by rw[mg (by omega)];exact h i hi
theorem LU{W:Nat->Prop}{Q:c7}{QP:cL}{tm:Nat->AV}{ds:List fR}{h:AH}{c:Int}(h7:tm 7=.sc (.int .u8 c))
  (hy:tS c=true->∀iZ,vf 10 tm iZ->gV.k4 W Q QP ⟨iZ,ds⟩ h) (hn:tS c=false->∀iZ,vf 10 tm iZ->gV.rJ W Q QP ⟨iZ,ds⟩ h):gV.yF W Q QP ⟨tm,ds⟩ h:=by
 unfold tS at hy hn
 cases e9:c==9<;>cases YD:c==10<;>cases YC:c==13<;>cases YB:c==32 <;>
 simp only[e9,YD,YC,YB,Bool.or_true,Bool.or_false,Bool.true_or,Bool.false_or,zD,zE,zC,zF]at hy hn <;>
 simp[-gV.rJ,-gV.k4,h7,e9,YD,YC,YB] <;>
 (first |refine hy _ ?_ |refine hn _ ?_)<;>repeat (first |exact vf.refl |refine vf.fk ?_ (Nat.le_of_ble_eq_true rfl))
theorem yj{W:Nat->Prop}{Q:c7}{QP:cL}{tm:Nat->AV}{h:AH}{s:ByteArray}{i j:Nat}{k:Int}{acc:List Tok}{x5:AV}(h5x:tm 5=x5)(h0:tm 0=.sc (.string s))(h6:tm 6=.sc (.int .i64 i))(h8:tm 8=.sc (.int .i64 j))(h9:tm 9=.sc (.int .i64 k))
  (h5:bN Tok.enc 3 126 h x5 acc) (hw:cP W x5) (hij:i<=j) (Qa:j<=s.size) (hn:acc.length<=100000000)
  (hK:∀iZ h',iZ 0=.sc (.string s)->iZ 6=.sc (.int .i64 j)->bN Tok.enc 3 126 h' (iZ 5) (acc++[⟨k,s.extract i j,i⟩])->cP (h.next<=·) (iZ 5)->(∀i,i<h.next->(∀off n,x5≠.sl i off n)->h'.obj i=h.obj i)->h.next<=h'.next->Q .normal ⟨iZ,[]⟩ h') :
  gV.k3 W Q QP ⟨tm,[]⟩ h:=by
 simp only[gV.k3,h5x,h0,h6,h8,h9,wC,te]
 refine⟨i,j,rfl,rfl,⟨by omega,by omega,by omega⟩,?_⟩
 refine⟨Tok.enc ⟨k,s.extract i j,i⟩,rfl,?_⟩
 refine V2 (f:=Tok.enc) Tok.bL (by decide) rfl Tok.iE (by decide) h5 hw hn ?_
 intro y h' e1 e2 e3 e4
 simp only[gV.k2]
 refine hK _ _ ?_ ?_ ?_ ?_ e3 e4
 ·simp[h0]
 ·simp[h8]
 ·simpa using e1
 ·simpa using e2
def D4(s:ByteArray)(h:AH)(x:Nat×List Tok)(s':St)(h':AH):Prop:=
 s'.ds=[]/\s'.tm 0=.sc (.string s)/\s'.tm 6=.sc (.int .i64 x.1)/\bN Tok.enc 3 126 h' (s'.tm 5) x.2/\cP (h.next<=·) (s'.tm 5)/\x.2.length<=x.1/\x.1<=s.size/\js s x.1 x.2=js s 0 []/\h.next<=h'.next/\(∀i,i<h.next->h'.obj i=h.obj i)
theorem Q9{h:AH}{s:ByteArray}{M:Nat->Prop}{R:AE->AH->Prop}(hR:Jf s h R):aE Pg 44 [.sc (.string s)] h M R:=by
 apply gV.calls
 unfold Jf at hR
 simp only[gV.vB,gV.A6,gV.yy]
 by_cases hb:65536<s.size
 ·rw[zX hb]at hR
  have qF:(65536:Int)<s.size:=by omega
  simp[qF]
  exact hR h (zU _) fun _ _=>rfl
 rw[zW hb]at hR
 have hs:s.size<9223372036854775807:=by omega
 have qF:¬(65536:Int)<s.size:=by omega
 simp[-gV.yz,qF]
 unfold gV.yz
 refine pC (ι:=Nat×List Tok) (D4 s h) (fun i=>s.size-i.1) (0,[]) ?_ ?_
 ·simp[D4]
  exact⟨.nil,by intro id off n h;cases h⟩
 rintro⟨i,acc⟩ ⟨tm,ds⟩ h' ⟨rfl,h0,h6,h5,iB,qt,aaL,iJ,hn,hf⟩
 simp only at h0 h6 h5 iB qt iJ aaL
 rw[gV.l1]
 rw[js]at iJ
 by_cases hi:i<s.size
 ·rw[dif_pos hi]at iJ
  simp only[gV.wR,gV.yD,gV.yE,gV.A7]
  have hw:IntKind.i64.wrap (↑i+1)=((i+1:Nat):Int):=by rw[aS (by omega) (by omega)];simp
  have vJ:hN s i=s[i].toNat:=by simp[hN,hi]
  have lX:=Q8 s[i]
  have hsu:((s[i].toNat:Int).toNat.toUInt8)=s[i]:=by simp
  simp[-gV.yF,h0,h6,hi,hw]
  have aaX:(((s[i].toNat:Nat):Int)).toNat.toUInt8=s[i]:=by simp
  generalize hc:((s[i].toNat:Nat):Int)=c at *
  rw[vJ]at iJ
  have skip:∀j,i<j->j<=s.size->js s j acc=js s 0 []->∀(iZ:Nat->AV) ,iZ 0=.sc (.string s)->iZ 5=tm 5->iZ 6=.sc (.int .i64 j) ->
    ∃a,s.size-a<s.size-i/\∃x:List Tok,D4 s h (a,x) ⟨iZ,[]⟩ h':=by
   intro j Yf Fs KN iZ e0 e5 e6
   exact⟨j,by omega,acc,rfl,e0,e6,by simpa[e5] using h5,by simpa[e5] using iB,by simp only;omega,Fs,KN,hn,hf⟩
  have yu:∀j t,i<j->j<=s.size->js s j (acc++[t])=js s 0 []->∀(iZ:Nat->AV)(h2:AH),iZ 0=.sc (.string s)->iZ 6=.sc (.int .i64 j)->bN Tok.enc 3 126 h2 (iZ 5) (acc++[t])->cP (h'.next<=·) (iZ 5) ->
    (∀i,i<h'.next->(∀off n,tm 5≠.sl i off n)->h2.obj i=h'.obj i)->h'.next<=h2.next->∃a,s.size-a<s.size-i/\∃x:List Tok,D4 s h (a,x) ⟨iZ,[]⟩ h2:=by
   intro j t Yf Fs KN iZ h2 e0 e6 e5 e5' e7 e8
   refine⟨j,by omega,acc++[t],rfl,e0,e6,e5,?_,?_,Fs,KN,by omega,?_⟩
   ·intro id off n he;exact zR hn (e5' id off n he)
   ·simp;omega
   ·intro q hq
    rw[e7 q (by omega) ?_];exact hf q hq
    intro off n he
    have:=iB q off n he
    simp only at this;omega
  refine LU (c:=c) (by simp) ?_ ?_
  ·intro Hr iZ mJ
   simp only[sG,Hr,zV]at iJ
   rw[zX (by omega)]at iJ
   have e0:=mJ 0 (by decide);have e5:=mJ 5 (by decide);have e6:=mJ 6 (by decide)
   simp[h0,h6]at e0 e5 e6
   simp only[gV.k4,e6,aT,hw,cC]
   refine skip (i+1) (by omega) (by omega) iJ _ ?_ ?_ ?_<;>simp[e0,e5]
  intro Hr iZ mJ
  have e0:=mJ 0 (by decide);have e5:=mJ 5 (by decide);have e6:=mJ 6 (by decide);have e7:=mJ 7 (by decide);have e8:=mJ 8 (by decide);have e9:=mJ 9 (by decide)
  simp[h0,h6]at e0 e5 e6 e7 e8 e9
  clear mJ
  simp only[gV.rJ,gV.sJ,e7,eG]
  simp only[sG,Hr,zE,if_false]at iJ
  cases oM:c==35
  ·simp only[oM,zE,if_false]at iJ
   simp[-gV.nO,e7]
   refine⟨fun _=>False,fun _ h=>h.elim,wN ?_⟩
   have hW:cP (fun id=>M id\/h.next<=id) (tm 5):=fun id off n he=>.inr (iB id off n he)
   simp only[gV.nO]
   cases hl:jR c
   ·simp only[hl,zE,if_false]at iJ
    simp[-gV.oG,e7]
    refine⟨fun _=>False,fun _ h=>h.elim,An ?_⟩
    simp only[gV.oG]
    cases hd:isDigit c
    ·simp only[hd,zE,if_false]at iJ
     simp[-gV.nj,e7]
     refine⟨fun _=>False,fun _ h=>h.elim,E6 ?_⟩
     have yL:decide (Lib.indexByte [123,125,91,93,59,44] s[i]<0)=!ri c:=by rw[lX]
     simp only[aZ,aaX,yL]
     cases PZ:ri c
     ·simp only[PZ,zE,if_false]at iJ
      rw[<-iJ]at hR
      simp[e6]
      exact hR _ hn hf
     ·simp only[PZ,zV]at iJ
      rw[zX (by omega)]at iJ
      simp[-gV.k3]
      refine yj (s:=s) (i:=i) (j:=i+1) (k:=3) (acc:=acc) (x5:=tm 5) ?_ ?_ ?_ ?_ ?_ h5 hW (by omega) (by omega) (by omega) ?_<;>try (simp[e0,e5,e6,e8,e9];done)
      exact yu _ _ (by omega) (by omega) iJ
    ·simp only[hd,zV]at iJ
     have hg:=Ca isDigit s i hi (by rw[vJ];exact hd)
     simp[-gV.fF,e0,e6]
     refine⟨fun _=>False,fun _ h=>h.elim,EB An rfl hs ?_⟩
     simp only[gV.fF]
     generalize iL isDigit s i=j at *
     by_cases hj:j<s.size
     ·have hbj:hN s j=s[j].toNat:=by simp[hN,hj]
      simp[-gV.k8,e0,hj]
      refine⟨fun _=>False,fun _ h=>h.elim,wN ?_⟩
      rw[hbj]at iJ
      cases Ye:jR (s[j].toNat:Nat)
      ·simp only[Ye,Bool.and_false,zE,if_false]at iJ
       rw[zX hg.1]at iJ
       simp[-gV.k3]
       refine yj (s:=s) (i:=i) (j:=j) (k:=2) (acc:=acc) (x5:=tm 5) ?_ ?_ ?_ ?_ ?_ h5 hW (by omega) (by omega) (by omega) ?_<;>try (simp[e0,e5,e6,e8,e9];done)
       exact yu _ _ (by omega) (by omega) iJ
      ·simp only[Ye,hj,decide_true,Bool.and_true,zV]at iJ
       rw[<-iJ]at hR
       simp
       exact hR _ hn hf
     ·simp only[hj,decide_false,Bool.false_and,zE,if_false]at iJ
      rw[zX hg.1]at iJ
      simp[-gV.k3,e0,hj]
      refine yj (s:=s) (i:=i) (j:=j) (k:=2) (acc:=acc) (x5:=tm 5) ?_ ?_ ?_ ?_ ?_ h5 hW (by omega) (by omega) (by omega) ?_<;>try (simp[e0,e5,e6,e8,e9];done)
      exact yu _ _ (by omega) (by omega) iJ
   ·simp only[hl,zV]at iJ
    have hg:=Ca nQ s i hi (by rw[vJ];simp[nQ,hl])
    rw[zX hg.1]at iJ
    simp[-gV.k3,-gV.oZ,e0,e6]
    refine⟨fun _=>False,fun _ h=>h.elim,EB (show yh 68 nQ from Kx) rfl hs ?_⟩
    refine yj (s:=s) (i:=i) (j:=iL nQ s i) (k:=1) (acc:=acc) (x5:=tm 5) ?_ ?_ ?_ ?_ ?_ h5 hW (by omega) (by omega) (by omega) ?_<;>try (simp[e0,e5,e6,e8,e9];done)
    exact yu _ _ (by omega) (by omega) iJ
  ·simp only[oM,zV]at iJ
   have hg:=Ca (fun c=>c != 10) s i hi (by rw[vJ];simp at oM;simp[oM])
   rw[zX hg.1]at iJ
   simp[-gV.sK,gV.k5,e0,e6]
   refine⟨fun _=>False,fun _ h=>h.elim,EB MT rfl hs ?_⟩
   refine skip _ hg.1 hg.2 iJ _ ?_ ?_ ?_<;>simp[e0,e5]
 ·rw[dif_neg hi]at iJ
  rw[<-iJ]at hR
  have hi':¬(i:Int)<s.size:=by omega
  simp only[gV.wR,gV.yD]
  simp[-gV.yE,h0,h6,hi]
  exact hR _ _ h5 iB hn hf
end Go.Proofs.Ytjehibknlmehmaa
