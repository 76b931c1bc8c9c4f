/- Contracts of the byte functions, of strings.IndexByte by the shelf, and of the scanner. No condition. -/
import Derived.Shelf.Small.Strs
import Derived.Test.YtjehibknlmehmaaGreatDoorProg
import Derived.Test.YtjehibknlmehmaaGreatDoorGsk
set_option maxRecDepth 100000
namespace Go.Proofs.YtjehibknlmehmaaGreatDoor
open Go.Ab
def ed(c:Int):Bool:=decide (97<=c)&&decide (c<=122)||decide (65<=c)&&decide (c<=90)||c==95
def isDigit(c:Int):Bool:=decide (48<=c)&&decide (c<=57)
def kw(c:Int):Bool:=c==9||c==10||c==13||c==32
def pi(c:Int):Bool:=c==123||c==125||c==91||c==93||c==59||c==44
def yc(g:FuncId)(p:Int->Bool):Prop:=∀{h:AH}{c:Int}{M:Nat->Prop}{R:AE->AH->Prop},R (.ret (.sc (.bool (p c)))) h->aB Pg g [.sc (.int .u8 c)] h M R
theorem Ao:yc 57 isDigit:=by
 intro h c M R hR
 apply F57.calls
 by_cases h1:48<=c<;>by_cases h2:c<=57<;>simpa[h1,h2,isDigit] using hR
theorem sj:yc 55 ed:=by
 intro h c M R hR
 apply F55.calls
 by_cases h1:97<=c<;>by_cases h2:c<=122<;>by_cases h3:65<=c<;>by_cases h4:c<=90<;>by_cases h5:c=95<;>simpa[h1,h2,h3,h4,h5,ed] using hR
theorem NF:yc 54 (fun c=>c != 10):=by
 intro h c M R hR
 apply F54.calls
 simpa using hR
theorem Db:yc 56 (fun c=>ed c||isDigit c):=by
 intro h c M R hR
 apply Iu.calls
 simp only[Iu.k5,Iu.k4]
 refine⟨fun _=>False,fun _ h=>h.elim,sj ?_⟩
 cases h1:ed c
 ·simp[-Iu.k3,Iu.k3]
  refine⟨fun _=>False,fun _ h=>h.elim,Ao ?_⟩
  simpa[h1] using hR
 ·simpa[h1] using hR
def eN(p:Int->Bool)(s:ByteArray)(at_:Nat):Nat:=
 if h:at_<s.size then(if p s[at_].toNat then eN p s (at_+1) else at_) else at_
termination_by s.size-at_
theorem AT{g:FuncId}{p:Int->Bool}(hg:yc g p)(he:xX Pg g=true){s:ByteArray}{at_:Nat}{h:AH}{M:Nat->Prop}{R:AE->AH->Prop}(hs:s.size<9223372036854775807)(hR:R (.ret (.sc (.int .i64 (eN p s at_)))) h) :
  aB Pg 53 [.sc (.string s),.sc (.int .i64 at_),.fn (.func g) [] []] h M R:=by
 apply MH.calls
 simp only[MH.k8,MH.k7]
 refine pB (ι:=Nat) (fun i s' h'=>h'=h/\s'.ds=[]/\s'.tm 0=.sc (.string s)/\s'.tm 1=.sc (.int .i64 i)/\s'.tm 2=.fn (.func g) [] []/\eN p s i=eN p s at_) (fun i=>s.size-i) at_ ?_ ?_
 ·simp
 rintro i ⟨tm,ds⟩ h' ⟨rfl,rfl,h0,h1,h2,hr⟩
 rw[MH.l1]
 simp only at h0 h1 h2
 rw[eN]at hr
 by_cases hi:i<s.size
 ·have Zz:s[i]?=some s[i]:=by simp[hi]
  simp[h0,h1,h2,hi,GJ,he]
  refine⟨fun _=>False,fun _ h=>h.elim,hg ?_⟩
  simp only[hi,dif_pos]at hr
  have hw:IntKind.i64.wrap (↑i+1)=((i+1:Nat):Int):=by rw[aX (by omega) (by omega)];simp
  cases hp:p s[i].toNat
  ·simp only[hp,zE,if_false]at hr
   simpa[hr] using hR
  ·simp only[hp,zV]at hr
   simp only[ap]
   exact⟨fun _=>⟨i+1,by omega,trivial,hw,hr⟩,fun h=>by cases h⟩
 ·simp[h0,h1,h2,hi]
  simp[hi]at hr
  rw[hr];exact hR
end Go.Proofs.YtjehibknlmehmaaGreatDoor
namespace Go.Proofs
open Go.Shelf
def Tryz.G6:Go.Shelf.Ren:={ f:=fun x=>match x with |137=>58 |217=>85 |266=>112 |n=>n,t:=fun x=>match x with |9=>9 |5=>5 |3=>3 |n=>n,g:=fun n=>n }
theorem Tryz.Sk:Lays.n137 Tryz.prog Tryz.G6 where
 mixed:=by kernel_rfl
 f137:=Tryz.func58.trans (congrArg some (by kernel_rfl))
 f217:=Tryz.func85.trans (congrArg some (by kernel_rfl))
 f266:=Tryz.func112.trans (congrArg some (by kernel_rfl))
 t3:=Tryz.underlying3
 a3:=Tryz.isAgg3
 z3:=Tryz.sizeOf3
 v3:=Tryz.zeroValue3
 t5:=Tryz.underlying5
 a5:=Tryz.isAgg5
 z5:=Tryz.sizeOf5
 v5:=Tryz.zeroValue5
 t9:=Tryz.underlying9
 a9:=Tryz.isAgg9
 z9:=Tryz.sizeOf9
 v9:=Tryz.zeroValue9
theorem Tryz.strings_IndexByte(s:ByteArray)(c:Int)(w:World) :
  Calls Tryz.prog 58 #[.string s,.int .u8 c] w fun e w'=>e=.returned (.int .i64 (Lib.indexByte s.data.toList c.toNat.toUInt8))/\w'=w:=Any.strings_IndexByte Tryz.Sk s c w
end Go.Proofs
namespace Go.Proofs.YtjehibknlmehmaaGreatDoor
open Go.Ab
structure Tok where
 kind:Int
 text:ByteArray
 at_:Int
def Tok.enc(t:Tok):List AV:=[.sc (.int .i64 t.kind),.sc (.string t.text),.sc (.int .i64 t.at_)]
theorem Tok.b8(t:Tok):t.enc.length=3:=rfl
theorem Tok.h_(t:Tok):t.enc.all cF=true:=rfl
inductive Rb where
 |skip (i:Nat)
 |tok (t:Tok) (i:Nat)
 |err (i:Nat)
def fm(c:Int):Bool:=ed c||isDigit c
def dn(s:ByteArray)(i:Nat):Int:=match s[i]? with |some c=>c.toNat |none=>0
def jb(s:ByteArray)(i:Nat)(c:Int):Rb:=
 if kw c then .skip (i+1)
 else if c==35 then .skip (eN (fun c=>c != 10) s i)
 else if ed c then .tok ⟨1,s.extract i (eN fm s i),i⟩ (eN fm s i)
 else if isDigit c then(if decide (eN isDigit s i<s.size)&&ed (dn s (eN isDigit s i)) then .err (eN isDigit s i) else .tok ⟨2,s.extract i (eN isDigit s i),i⟩ (eN isDigit s i))
 else if pi c then .tok ⟨3,s.extract i (i+1),i⟩ (i+1)
 else .err i
def fB(s:ByteArray)(i:Nat)(acc:List Tok):Except Nat (List Tok):=
 if h:i<s.size then
  match jb s i (dn s i) with
  |.skip j=>if i<j then fB s j acc else .error 0
  |.tok t j=>if i<j then fB s j (acc++[t]) else .error 0
  |.err j=>.error j
 else .ok acc
termination_by s.size-i
theorem Fl{h:AH}{s:ByteArray}{c:Int}{M:Nat->Prop}{R:AE->AH->Prop}(hR:R (.ret (.sc (.int .i64 (Lib.indexByte s.data.toList c.toNat.toUInt8)))) h):aB Pg 58 [.sc (.string s),.sc (.int .u8 c)] h M R:=by
 intro E w dR hr ha
 cases ha with
 |cons h1 h2=>
  cases h2 with
  |cons h3 h4=>
   cases h4;cases h1;cases h3
   refine(Tryz.strings_IndexByte s c w).mono ?_
   rintro e w' ⟨rfl,rfl⟩
   exact⟨E,h,.ret (.sc (.int .i64 _)),Step.refl hr,VR.sc _,hR⟩
theorem Ru(c:UInt8):decide (Lib.indexByte [123,125,91,93,59,44] c<0)=!pi c.toNat:=by
 have key:∀n:Fin 256,decide (Lib.indexByte [123,125,91,93,59,44] (UInt8.ofNat n)<0)=!pi ((UInt8.ofNat n).toNat:Nat):=by decide +kernel
 have:=key ⟨c.toNat,c.toNat_lt⟩
 simpa using this
theorem RF(p:Int->Bool)(s:ByteArray):∀(n i:Nat),s.size-i=n->i<=s.size->i<=eN p s i/\eN p s i<=s.size:=by
 intro n
 induction n with
 |zero=>intro i h1 h2;rw[eN,dif_neg (by omega)];omega
 |succ n ih=>
  intro i h1 h2
  rw[eN,dif_pos (by omega)]
  split
  ·have:=ih (i+1) (by omega) (by omega);omega
  ·omega
theorem B4(p:Int->Bool)(s:ByteArray)(i:Nat)(h:i<s.size)(hp:p (dn s i)=true):i<eN p s i/\eN p s i<=s.size:=by
 rw[eN,dif_pos h]
 have:dn s i=s[i].toNat:=by simp[dn,h]
 rw[<-this,zX hp]
 have:=RF p s _ (i+1) rfl (by omega)
 omega
def JN(s:ByteArray)(h:AH)(R:AE->AH->Prop):Prop:=
 if 65536<s.size then ∀h',h.next<=h'.next->(∀i,i<h.next->h'.obj i=h.obj i)->R (.ret (.cP [aV,.sc (.int .i64 0),.sc (.int .i64 1)])) h'
 else match fB s 0 [] with
 |.ok l=>∀x h',bC Tok.enc 3 117 h' x l->df (h.next<=·) x->h.next<=h'.next->(∀i,i<h.next->h'.obj i=h.obj i)->R (.ret (.cP [x,.sc (.int .i64 0),.sc (.int .i64 0)])) h'
 |.error p=>∀h',h.next<=h'.next->(∀i,i<h.next->h'.obj i=h.obj i)->R (.ret (.cP [aV,.sc (.int .i64 p),.sc (.int .i64 90)])) h'
def uV(n:Nat)(tm ie:Nat->AV):Prop:=∀i,i<n->ie i=tm i
theorem uV.refl{n:Nat}{tm:Nat->AV}:uV n tm tm:=fun _ _=>rfl
theorem uV.eP{n d:Nat}{tm ie:Nat->AV}{v:AV}(h:uV n tm ie)(hd:n<=d):uV n tm (Go.Ab.eP ie d v):=fun i hi=>by rw[lH (by omega)];exact h i hi
theorem ML{W:Nat->Prop}{Q:ck}{QP:bU}{tm:Nat->AV}{ds:List eT}{h:AH}{c:Int}(h7:tm 7=.sc (.int .u8 c))
  (hy:kw c=true->∀ie,uV 10 tm ie->fO.k4 W Q QP ⟨ie,ds⟩ h) (hn:kw c=false->∀ie,uV 10 tm ie->fO.ry W Q QP ⟨ie,ds⟩ h):fO.yF W Q QP ⟨tm,ds⟩ h:=by
 unfold kw at hy hn
 cases e9:c==9<;>cases Z3:c==10<;>cases Z2:c==13<;>cases Z1:c==32 <;>
 simp only[e9,Z3,Z2,Z1,Bool.or_true,Bool.or_false,Bool.true_or,Bool.false_or,zD,zE,zC,zF]at hy hn <;>
 simp[-fO.ry,-fO.k4,h7,e9,Z3,Z2,Z1] <;>
 (first |refine hy _ ?_ |refine hn _ ?_)<;>repeat (first |exact uV.refl |refine uV.eP ?_ (Nat.le_of_ble_eq_true rfl))
theorem ye{W:Nat->Prop}{Q:ck}{QP:bU}{tm:Nat->AV}{h:AH}{s:ByteArray}{i j:Nat}{k:Int}{acc:List Tok}{x5:AV}(h5x:tm 5=x5)(h0:tm 0=.sc (.string s))(h6:tm 6=.sc (.int .i64 i))(h8:tm 8=.sc (.int .i64 j))(h9:tm 9=.sc (.int .i64 k))
  (h5:bC Tok.enc 3 117 h x5 acc) (hw:df W x5) (Zw:i<=j) (HQ:j<=s.size) (hn:acc.length<=100000000)
  (hK:∀ie h',ie 0=.sc (.string s)->ie 6=.sc (.int .i64 j)->bC Tok.enc 3 117 h' (ie 5) (acc++[⟨k,s.extract i j,i⟩])->df (h.next<=·) (ie 5)->(∀i,i<h.next->(∀off n,x5≠.sl i off n)->h'.obj i=h.obj i)->h.next<=h'.next->Q .normal ⟨ie,[]⟩ h') :
  fO.k3 W Q QP ⟨tm,[]⟩ h:=by
 simp only[fO.k3,h5x,h0,h6,h8,h9,wj,sK]
 refine⟨i,j,rfl,rfl,⟨by omega,by omega,by omega⟩,?_⟩
 refine⟨Tok.enc ⟨k,s.extract i j,i⟩,rfl,?_⟩
 refine WT (f:=Tok.enc) Tok.b8 (by decide) rfl Tok.h_ (by decide) h5 hw hn ?_
 intro y h' e1 e2 e3 e4
 simp only[fO.k2]
 refine hK _ _ ?_ ?_ ?_ ?_ e3 e4
 ·simp[h0]
 ·simp[h8]
 ·simpa using e1
 ·simpa using e2
def Eo(s:ByteArray)(h:AH)(x:Nat×List Tok)(s':St)(h':AH):Prop:=
 s'.ds=[]/\s'.tm 0=.sc (.string s)/\s'.tm 6=.sc (.int .i64 x.1)/\bC Tok.enc 3 117 h' (s'.tm 5) x.2/\df (h.next<=·) (s'.tm 5)/\x.2.length<=x.1/\x.1<=s.size/\fB s x.1 x.2=fB s 0 []/\h.next<=h'.next/\(∀i,i<h.next->h'.obj i=h.obj i)
theorem RD{h:AH}{s:ByteArray}{M:Nat->Prop}{R:AE->AH->Prop}(hR:JN s h R):aB Pg 33 [.sc (.string s)] h M R:=by
 apply fO.calls
 unfold JN at hR
 simp only[fO.yw,fO.Bc,fO.yx]
 by_cases hb:65536<s.size
 ·rw[zX hb]at hR
  have nG:(65536:Int)<s.size:=by omega
  simp[nG]
  exact hR h (zU _) fun _ _=>rfl
 rw[zW hb]at hR
 have hs:s.size<9223372036854775807:=by omega
 have nG:¬(65536:Int)<s.size:=by omega
 simp[-fO.yz,nG]
 unfold fO.yz
 refine pB (ι:=Nat×List Tok) (Eo s h) (fun i=>s.size-i.1) (0,[]) ?_ ?_
 ·simp[Eo]
  exact⟨.nil,by intro id off n h;cases h⟩
 rintro⟨i,acc⟩ ⟨tm,ds⟩ h' ⟨rfl,h0,h6,h5,eL,sW,abJ,gh,hn,hf⟩
 simp only at h0 h6 h5 eL sW gh abJ
 rw[fO.l1]
 rw[fB]at gh
 by_cases hi:i<s.size
 ·rw[dif_pos hi]at gh
  simp only[fO.wG,fO.yD,fO.yE,fO.Be]
  have hw:IntKind.i64.wrap (↑i+1)=((i+1:Nat):Int):=by rw[aX (by omega) (by omega)];simp
  have wV:dn s i=s[i].toNat:=by simp[dn,hi]
  have n_:=Ru s[i]
  have hsu:((s[i].toNat:Int).toNat.toUInt8)=s[i]:=by simp
  simp[-fO.yF,h0,h6,hi,hw]
  have abU:(((s[i].toNat:Nat):Int)).toNat.toUInt8=s[i]:=by simp
  generalize hc:((s[i].toNat:Nat):Int)=c at *
  rw[wV]at gh
  have skip:∀j,i<j->j<=s.size->fB s j acc=fB s 0 []->∀(ie:Nat->AV) ,ie 0=.sc (.string s)->ie 5=tm 5->ie 6=.sc (.int .i64 j) ->
    ∃a,s.size-a<s.size-i/\∃x:List Tok,Eo s h (a,x) ⟨ie,[]⟩ h':=by
   intro j Zu Dm LB ie e0 e5 e6
   exact⟨j,by omega,acc,rfl,e0,e6,by simpa[e5] using h5,by simpa[e5] using eL,by simp only;omega,Dm,LB,hn,hf⟩
  have HC:∀j t,i<j->j<=s.size->fB s j (acc++[t])=fB s 0 []->∀(ie:Nat->AV)(h2:AH),ie 0=.sc (.string s)->ie 6=.sc (.int .i64 j)->bC Tok.enc 3 117 h2 (ie 5) (acc++[t])->df (h'.next<=·) (ie 5) ->
    (∀i,i<h'.next->(∀off n,tm 5≠.sl i off n)->h2.obj i=h'.obj i)->h'.next<=h2.next->∃a,s.size-a<s.size-i/\∃x:List Tok,Eo s h (a,x) ⟨ie,[]⟩ h2:=by
   intro j t Zu Dm LB ie h2 e0 e6 e5 e5' e7 e8
   refine⟨j,by omega,acc++[t],rfl,e0,e6,e5,?_,?_,Dm,LB,by omega,?_⟩
   ·intro id off n he;exact zR hn (e5' id off n he)
   ·simp;omega
   ·intro q hq
    rw[e7 q (by omega) ?_];exact hf q hq
    intro off n he
    have:=eL q off n he
    simp only at this;omega
  refine ML (c:=c) (by simp) ?_ ?_
  ·intro HS ie mi
   simp only[jb,HS,zV]at gh
   rw[zX (by omega)]at gh
   have e0:=mi 0 (by decide);have e5:=mi 5 (by decide);have e6:=mi 6 (by decide)
   simp[h0,h6]at e0 e5 e6
   simp only[fO.k4,e6,bg,hw,bL]
   refine skip (i+1) (by omega) (by omega) gh _ ?_ ?_ ?_<;>simp[e0,e5]
  intro HS ie mi
  have e0:=mi 0 (by decide);have e5:=mi 5 (by decide);have e6:=mi 6 (by decide);have e7:=mi 7 (by decide);have e8:=mi 8 (by decide);have e9:=mi 9 (by decide)
  simp[h0,h6]at e0 e5 e6 e7 e8 e9
  clear mi
  simp only[fO.ry,fO.sr,e7,eO]
  simp only[jb,HS,zE,if_false]at gh
  cases tK:c==35
  ·simp only[tK,zE,if_false]at gh
   simp[-fO.nC,e7]
   refine⟨fun _=>False,fun _ h=>h.elim,sj ?_⟩
   have hW:df (fun id=>M id\/h.next<=id) (tm 5):=fun id off n he=>.inr (eL id off n he)
   simp only[fO.nC]
   cases hl:ed c
   ·simp only[hl,zE,if_false]at gh
    simp[-fO.nY,e7]
    refine⟨fun _=>False,fun _ h=>h.elim,Ao ?_⟩
    simp only[fO.nY]
    cases hd:isDigit c
    ·simp only[hd,zE,if_false]at gh
     simp[-fO.mR,e7]
     refine⟨fun _=>False,fun _ h=>h.elim,Fl ?_⟩
     have Dn:decide (Lib.indexByte [123,125,91,93,59,44] s[i]<0)=!pi c:=by rw[n_]
     simp only[bu,abU,Dn]
     cases Qo:pi c
     ·simp only[Qo,zE,if_false]at gh
      rw[<-gh]at hR
      simp[e6]
      exact hR _ hn hf
     ·simp only[Qo,zV]at gh
      rw[zX (by omega)]at gh
      simp[-fO.k3]
      refine ye (s:=s) (i:=i) (j:=i+1) (k:=3) (acc:=acc) (x5:=tm 5) ?_ ?_ ?_ ?_ ?_ h5 hW (by omega) (by omega) (by omega) ?_<;>try (simp[e0,e5,e6,e8,e9];done)
      exact HC _ _ (by omega) (by omega) gh
    ·simp only[hd,zV]at gh
     have hg:=B4 isDigit s i hi (by rw[wV];exact hd)
     simp[-fO.eF,e0,e6]
     refine⟨fun _=>False,fun _ h=>h.elim,AT Ao rfl hs ?_⟩
     simp only[fO.eF]
     generalize eN isDigit s i=j at *
     by_cases hj:j<s.size
     ·have hbj:dn s j=s[j].toNat:=by simp[dn,hj]
      simp[-fO.k8,e0,hj]
      refine⟨fun _=>False,fun _ h=>h.elim,sj ?_⟩
      rw[hbj]at gh
      cases Zq:ed (s[j].toNat:Nat)
      ·simp only[Zq,Bool.and_false,zE,if_false]at gh
       rw[zX hg.1]at gh
       simp[-fO.k3]
       refine ye (s:=s) (i:=i) (j:=j) (k:=2) (acc:=acc) (x5:=tm 5) ?_ ?_ ?_ ?_ ?_ h5 hW (by omega) (by omega) (by omega) ?_<;>try (simp[e0,e5,e6,e8,e9];done)
       exact HC _ _ (by omega) (by omega) gh
      ·simp only[Zq,hj,decide_true,Bool.and_true,zV]at gh
       rw[<-gh]at hR
       simp
       exact hR _ hn hf
     ·simp only[hj,decide_false,Bool.false_and,zE,if_false]at gh
      rw[zX hg.1]at gh
      simp[-fO.k3,e0,hj]
      refine ye (s:=s) (i:=i) (j:=j) (k:=2) (acc:=acc) (x5:=tm 5) ?_ ?_ ?_ ?_ ?_ h5 hW (by omega) (by omega) (by omega) ?_<;>try (simp[e0,e5,e6,e8,e9];done)
      exact HC _ _ (by omega) (by omega) gh
   ·simp only[hl,zV]at gh
    have hg:=B4 fm s i hi (by rw[wV];simp[fm,hl])
    rw[zX hg.1]at gh
    simp[-fO.k3,-fO.oJ,e0,e6]
    refine⟨fun _=>False,fun _ h=>h.elim,AT (show yc 56 fm from Db) rfl hs ?_⟩
    refine ye (s:=s) (i:=i) (j:=eN fm s i) (k:=1) (acc:=acc) (x5:=tm 5) ?_ ?_ ?_ ?_ ?_ h5 hW (by omega) (by omega) (by omega) ?_<;>try (simp[e0,e5,e6,e8,e9];done)
    exact HC _ _ (by omega) (by omega) gh
  ·simp only[tK,zV]at gh
   have hg:=B4 (fun c=>c != 10) s i hi (by rw[wV];simp at tK;simp[tK])
   rw[zX hg.1]at gh
   simp[-fO.ss,fO.k5,e0,e6]
   refine⟨fun _=>False,fun _ h=>h.elim,AT NF rfl hs ?_⟩
   refine skip _ hg.1 hg.2 gh _ ?_ ?_ ?_<;>simp[e0,e5]
 ·rw[dif_neg hi]at gh
  rw[<-gh]at hR
  have hi':¬(i:Int)<s.size:=by omega
  simp only[fO.wG,fO.yD]
  simp[-fO.yE,h0,h6,hi]
  exact hR _ _ h5 eL hn hf
end Go.Proofs.YtjehibknlmehmaaGreatDoor
