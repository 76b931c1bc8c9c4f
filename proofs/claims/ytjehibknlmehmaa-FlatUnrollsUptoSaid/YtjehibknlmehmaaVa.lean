/- Contracts of the byte functions, of strings.IndexByte by the shelf, and of lex.Scan. No condition. -/
import Derived.Shelf.Small.Strs
import Derived.Test.YtjehibknlmehmaaProg
import Derived.Test.YtjehibknlmehmaaGs
set_option maxRecDepth 100000
namespace Go.Proofs.Ytjehibknlmehmaa
open Go.Ab
def isLetter(c:Int):Bool:=decide (97<=c)&&decide (c<=122)||decide (65<=c)&&decide (c<=90)||c==95
def isDigit(c:Int):Bool:=decide (48<=c)&&decide (c<=57)
def isBlank(c:Int):Bool:=c==9||c==10||c==13||c==32
def isSignB(c:Int):Bool:=c==123||c==125||c==91||c==93||c==59||c==44
def Tells(g:FuncId)(p:Int->Bool):Prop:=∀{h:AH}{c:Int}{M:Nat->Prop}{R:AE->AH->Prop},R (.ret (.sc (.bool (p c)))) h->ACalls Try.prog g [.sc (.int .u8 c)] h M R
theorem digit_ok:Tells 69 isDigit:=by
 intro h c M R hR
 apply F69.calls
 by_cases h1:48<=c<;>by_cases h2:c<=57<;>simpa[h1,h2,isDigit] using hR
theorem letter_ok:Tells 67 isLetter:=by
 intro h c M R hR
 apply F67.calls
 by_cases h1:97<=c<;>by_cases h2:c<=122<;>by_cases h3:65<=c<;>by_cases h4:c<=90<;>by_cases h5:c=95<;>simpa[h1,h2,h3,h4,h5,isLetter] using hR
theorem notNl_ok:Tells 66 (fun c=>c != 10):=by
 intro h c M R hR
 apply F66.calls
 simpa using hR
theorem inName_ok:Tells 68 (fun c=>isLetter c||isDigit c):=by
 intro h c M R hR
 apply F68.calls
 simp only[F68.k5,F68.t5,F68.k4,F68.t4]
 refine⟨fun _=>False,fun _ h=>h.elim,letter_ok ?_⟩
 cases h1:isLetter c
 ·simp[-F68.k3,F68.k3]
  refine⟨fun _=>False,fun _ h=>h.elim,digit_ok ?_⟩
  simpa[h1] using hR
 ·simpa[h1] using hR
def runS(p:Int->Bool)(s:ByteArray)(at_:Nat):Nat:=
 if h:at_<s.size then(if p s[at_].toNat then runS p s (at_+1) else at_) else at_
termination_by s.size-at_
theorem run_ok{g:FuncId}{p:Int->Bool}(hg:Tells g p)(he:entOk Try.prog g=true){s:ByteArray}{at_:Nat}{h:AH}{M:Nat->Prop}{R:AE->AH->Prop}(hs:s.size<9223372036854775807)(hR:R (.ret (.sc (.int .i64 (runS p s at_)))) h) :
  ACalls Try.prog 65 [.sc (.string s),.sc (.int .i64 at_),.fn (.func g) [] []] h M R:=by
 apply F65.calls
 simp only[F65.k8,F65.t8,F65.k7]
 refine aLoop_of (ι:=Nat) (fun i s' h'=>h'=h/\s'.ds=[]/\s'.tm 0=.sc (.string s)/\s'.tm 1=.sc (.int .i64 i)/\s'.tm 2=.fn (.func g) [] []/\runS p s i=runS p s at_) (fun i=>s.size-i) at_ ?_ ?_
 ·simp
 rintro i ⟨tm,ds⟩ h' ⟨rfl,rfl,h0,h1,h2,hr⟩
 rw[F65.l1]
 simp only at h0 h1 h2
 rw[runS]at hr
 by_cases hi:i<s.size
 ·have hg':s[i]?=some s[i]:=by simp[hi]
  simp[h0,h1,h2,hi,aGo,he]
  refine⟨fun _=>False,fun _ h=>h.elim,hg ?_⟩
  simp only[hi,dif_pos]at hr
  have hw:IntKind.i64.wrap (↑i+1)=((i+1:Nat):Int):=by rw[wrap_in (by omega) (by omega)];simp
  cases hp:p s[i].toNat
  ·simp only[hp,zE,if_false]at hr
   simpa[hr] using hR
  ·simp only[hp,zV]at hr
   simp only[aIf_b]
   exact⟨fun _=>⟨i+1,by omega,trivial,hw,hr⟩,fun h=>by cases h⟩
 ·simp[h0,h1,h2,hi]
  simp[hi]at hr
  rw[hr];exact hR
end Go.Proofs.Ytjehibknlmehmaa
namespace Go.Proofs
open Go.Shelf
def Try.lays137_ren:Go.Shelf.Ren:={ f:=fun x=>match x with |137=>70 |217=>86 |266=>96 |n=>n,t:=fun x=>match x with |9=>9 |5=>5 |3=>3 |n=>n,g:=fun n=>n }
theorem Try.lays137:Lays.n137 Try.prog Try.lays137_ren where
 mixed:=by kernel_rfl
 f137:=Try.func70.trans (congrArg some (by kernel_rfl))
 f217:=Try.func86.trans (congrArg some (by kernel_rfl))
 f266:=Try.func96.trans (congrArg some (by kernel_rfl))
 t3:=Try.underlying3
 a3:=Try.isAgg3
 z3:=Try.sizeOf3
 v3:=Try.zeroValue3
 t5:=Try.underlying5
 a5:=Try.isAgg5
 z5:=Try.sizeOf5
 v5:=Try.zeroValue5
 t9:=Try.underlying9
 a9:=Try.isAgg9
 z9:=Try.sizeOf9
 v9:=Try.zeroValue9
theorem Try.strings_IndexByte(s:ByteArray)(c:Int)(w:World) :
  Calls Try.prog 70 #[.string s,.int .u8 c] w fun e w'=>e=.returned (.int .i64 (Lib.indexByte s.data.toList c.toNat.toUInt8))/\w'=w:=Any.strings_IndexByte Try.lays137 s c w
end Go.Proofs
namespace Go.Proofs.Ytjehibknlmehmaa
open Go.Ab
structure Tok where
 kind:Int
 text:ByteArray
 at_:Int
def Tok.enc(t:Tok):List AV:=[.sc (.int .i64 t.kind),.sc (.string t.text),.sc (.int .i64 t.at_)]
theorem Tok.enc_len(t:Tok):t.enc.length=3:=rfl
theorem Tok.enc_one(t:Tok):t.enc.all oneA=true:=rfl
inductive LStep where
 |skip (i:Nat)
 |tok (t:Tok) (i:Nat)
 |err (i:Nat)
def isNameB(c:Int):Bool:=isLetter c||isDigit c
def byteAt(s:ByteArray)(i:Nat):Int:=match s[i]? with |some c=>c.toNat |none=>0
def lexAt(s:ByteArray)(i:Nat)(c:Int):LStep:=
 if isBlank c then .skip (i+1)
 else if c==35 then .skip (runS (fun c=>c != 10) s i)
 else if isLetter c then .tok ⟨1,s.extract i (runS isNameB s i),i⟩ (runS isNameB s i)
 else if isDigit c then(if decide (runS isDigit s i<s.size)&&isLetter (byteAt s (runS isDigit s i)) then .err (runS isDigit s i) else .tok ⟨2,s.extract i (runS isDigit s i),i⟩ (runS isDigit s i))
 else if isSignB c then .tok ⟨3,s.extract i (i+1),i⟩ (i+1)
 else .err i
def scanS(s:ByteArray)(i:Nat)(acc:List Tok):Except Nat (List Tok):=
 if h:i<s.size then
  match lexAt s i (byteAt s i) with
  |.skip j=>if i<j then scanS s j acc else .error 0
  |.tok t j=>if i<j then scanS s j (acc++[t]) else .error 0
  |.err j=>.error j
 else .ok acc
termination_by s.size-i
theorem indexByte_ok{h:AH}{s:ByteArray}{c:Int}{M:Nat->Prop}{R:AE->AH->Prop}(hR:R (.ret (.sc (.int .i64 (Lib.indexByte s.data.toList c.toNat.toUInt8)))) h):ACalls Try.prog 70 [.sc (.string s),.sc (.int .u8 c)] h M R:=by
 intro E w cargs hr ha
 cases ha with
 |cons h1 h2=>
  cases h2 with
  |cons h3 h4=>
   cases h4;cases h1;cases h3
   refine(Try.strings_IndexByte s c w).mono ?_
   rintro e w' ⟨rfl,rfl⟩
   exact⟨E,h,.ret (.sc (.int .i64 _)),Step.refl hr,VR.sc _,hR⟩
theorem sign_ix(c:UInt8):decide (Lib.indexByte [123,125,91,93,59,44] c<0)=!isSignB c.toNat:=by
 have key:∀n:Fin 256,decide (Lib.indexByte [123,125,91,93,59,44] (UInt8.ofNat n)<0)=!isSignB ((UInt8.ofNat n).toNat:Nat):=by decide +kernel
 have:=key ⟨c.toNat,c.toNat_lt⟩
 simpa using this
theorem runS_le(p:Int->Bool)(s:ByteArray):∀(n i:Nat),s.size-i=n->i<=s.size->i<=runS p s i/\runS p s i<=s.size:=by
 intro n
 induction n with
 |zero=>intro i h1 h2;rw[runS,dif_neg (by omega)];omega
 |succ n ih=>
  intro i h1 h2
  rw[runS,dif_pos (by omega)]
  split
  ·have:=ih (i+1) (by omega) (by omega);omega
  ·omega
theorem runS_gt(p:Int->Bool)(s:ByteArray)(i:Nat)(h:i<s.size)(hp:p (byteAt s i)=true):i<runS p s i/\runS p s i<=s.size:=by
 rw[runS,dif_pos h]
 have:byteAt s i=s[i].toNat:=by simp[byteAt,h]
 rw[<-this,zX hp]
 have:=runS_le p s _ (i+1) rfl (by omega)
 omega
def ScanR(s:ByteArray)(h:AH)(R:AE->AH->Prop):Prop:=
 if 65536<s.size then ∀h',h.next<=h'.next->(∀i,i<h.next->h'.obj i=h.obj i)->R (.ret (.tup [nilS,.sc (.int .i64 0),.sc (.int .i64 1)])) h'
 else match scanS s 0 [] with
 |.ok l=>∀x h',SlL Tok.enc 3 126 h' x l->InS (h.next<=·) x->h.next<=h'.next->(∀i,i<h.next->h'.obj i=h.obj i)->R (.ret (.tup [x,.sc (.int .i64 0),.sc (.int .i64 0)])) h'
 |.error p=>∀h',h.next<=h'.next->(∀i,i<h.next->h'.obj i=h.obj i)->R (.ret (.tup [nilS,.sc (.int .i64 p),.sc (.int .i64 90)])) h'
def Same(n:Nat)(tm tm':Nat->AV):Prop:=∀i,i<n->tm' i=tm i
theorem Same.refl{n:Nat}{tm:Nat->AV}:Same n tm tm:=fun _ _=>rfl
theorem Same.upd{n d:Nat}{tm tm':Nat->AV}{v:AV}(h:Same n tm tm')(hd:n<=d):Same n tm (Go.Ab.upd tm' d v):=fun i hi=>by rw[upd_ne (by omega)];exact h i hi
theorem F44_blank{W:Nat->Prop}{Q:Post}{QP:PPost}{tm:Nat->AV}{ds:List ADef}{h:AH}{c:Int}(h7:tm 7=.sc (.int .u8 c))
  (hy:isBlank c=true->∀tm',Same 10 tm tm'->F44.k4 W Q QP ⟨tm',ds⟩ h) (hn:isBlank c=false->∀tm',Same 10 tm tm'->F44.k20 W Q QP ⟨tm',ds⟩ h):F44.k28 W Q QP ⟨tm,ds⟩ h:=by
 unfold isBlank at hy hn
 cases e9:c==9<;>cases e10:c==10<;>cases e13:c==13<;>cases e32:c==32 <;>
 simp only[e9,e10,e13,e32,Bool.or_true,Bool.or_false,Bool.true_or,Bool.false_or,zD,zE,zC,zF]at hy hn <;>
 simp[-F44.k20,-F44.k4,h7,e9,e10,e13,e32] <;>
 (first |refine hy _ ?_ |refine hn _ ?_)<;>repeat (first |exact Same.refl |refine Same.upd ?_ (Nat.le_of_ble_eq_true rfl))
theorem F44_tok{W:Nat->Prop}{Q:Post}{QP:PPost}{tm:Nat->AV}{h:AH}{s:ByteArray}{i j:Nat}{k:Int}{acc:List Tok}{x5:AV}(h5x:tm 5=x5)(h0:tm 0=.sc (.string s))(h6:tm 6=.sc (.int .i64 i))(h8:tm 8=.sc (.int .i64 j))(h9:tm 9=.sc (.int .i64 k))
  (h5:SlL Tok.enc 3 126 h x5 acc) (hw:InS W x5) (hij:i<=j) (hjs:j<=s.size) (hn:acc.length<=100000000)
  (hK:∀tm' h',tm' 0=.sc (.string s)->tm' 6=.sc (.int .i64 j)->SlL Tok.enc 3 126 h' (tm' 5) (acc++[⟨k,s.extract i j,i⟩])->InS (h.next<=·) (tm' 5)->(∀i,i<h.next->(∀off n,x5≠.sl i off n)->h'.obj i=h.obj i)->h.next<=h'.next->Q .normal ⟨tm',[]⟩ h') :
  F44.k3 W Q QP ⟨tm,[]⟩ h:=by
 simp only[F44.k3,F44.t3,h5x,h0,h6,h8,h9,pSlS,bnd]
 refine⟨i,j,rfl,rfl,⟨by omega,by omega,by omega⟩,?_⟩
 refine⟨Tok.enc ⟨k,s.extract i j,i⟩,rfl,?_⟩
 refine app1 (f:=Tok.enc) Tok.enc_len (by decide) rfl Tok.enc_one (by decide) h5 hw hn ?_
 intro y h' e1 e2 e3 e4
 simp only[F44.k2,F44.t2]
 refine hK _ _ ?_ ?_ ?_ ?_ e3 e4
 ·simp[h0]
 ·simp[h8]
 ·simpa using e1
 ·simpa using e2
def ScanI(s:ByteArray)(h:AH)(x:Nat×List Tok)(s':St)(h':AH):Prop:=
 s'.ds=[]/\s'.tm 0=.sc (.string s)/\s'.tm 6=.sc (.int .i64 x.1)/\SlL Tok.enc 3 126 h' (s'.tm 5) x.2/\InS (h.next<=·) (s'.tm 5)/\x.2.length<=x.1/\x.1<=s.size/\scanS s x.1 x.2=scanS s 0 []/\h.next<=h'.next/\(∀i,i<h.next->h'.obj i=h.obj i)
theorem scan_ok{h:AH}{s:ByteArray}{M:Nat->Prop}{R:AE->AH->Prop}(hR:ScanR s h R):ACalls Try.prog 44 [.sc (.string s)] h M R:=by
 apply F44.calls
 unfold ScanR at hR
 simp only[F44.k40,F44.t40,F44.k39,F44.t39,F44.k38,F44.t38]
 by_cases hb:65536<s.size
 ·rw[zX hb]at hR
  have hb':(65536:Int)<s.size:=by omega
  simp[hb']
  exact hR h (zU _) fun _ _=>rfl
 rw[zW hb]at hR
 have hs:s.size<9223372036854775807:=by omega
 have hb':¬(65536:Int)<s.size:=by omega
 simp[-F44.k33,hb']
 unfold F44.k33
 refine aLoop_of (ι:=Nat×List Tok) (ScanI s h) (fun i=>s.size-i.1) (0,[]) ?_ ?_
 ·simp[ScanI]
  exact⟨.nil,by intro id off n h;cases h⟩
 rintro⟨i,acc⟩ ⟨tm,ds⟩ h' ⟨rfl,h0,h6,h5,hin,hacc,hile,hsc,hn,hf⟩
 simp only at h0 h6 h5 hin hacc hsc hile
 rw[F44.l1]
 rw[scanS]at hsc
 by_cases hi:i<s.size
 ·rw[dif_pos hi]at hsc
  simp only[F44.k32,F44.t32,F44.k31,F44.t31,F44.k30,F44.t30,F44.k29,F44.t29]
  have hw:IntKind.i64.wrap (↑i+1)=((i+1:Nat):Int):=by rw[wrap_in (by omega) (by omega)];simp
  have hby:byteAt s i=s[i].toNat:=by simp[byteAt,hi]
  have hsg:=sign_ix s[i]
  have hsu:((s[i].toNat:Int).toNat.toUInt8)=s[i]:=by simp
  simp[-F44.k28,h0,h6,hi,hw]
  have hcc':(((s[i].toNat:Nat):Int)).toNat.toUInt8=s[i]:=by simp
  generalize hc:((s[i].toNat:Nat):Int)=c at *
  rw[hby]at hsc
  have skip:∀j,i<j->j<=s.size->scanS s j acc=scanS s 0 []->∀(tm':Nat->AV) ,tm' 0=.sc (.string s)->tm' 5=tm 5->tm' 6=.sc (.int .i64 j) ->
    ∃a,s.size-a<s.size-i/\∃x:List Tok,ScanI s h (a,x) ⟨tm',[]⟩ h':=by
   intro j hj1 hj2 hj3 tm' e0 e5 e6
   exact⟨j,by omega,acc,rfl,e0,e6,by simpa[e5] using h5,by simpa[e5] using hin,by simp only;omega,hj2,hj3,hn,hf⟩
  have nxt:∀j t,i<j->j<=s.size->scanS s j (acc++[t])=scanS s 0 []->∀(tm':Nat->AV)(h2:AH),tm' 0=.sc (.string s)->tm' 6=.sc (.int .i64 j)->SlL Tok.enc 3 126 h2 (tm' 5) (acc++[t])->InS (h'.next<=·) (tm' 5) ->
    (∀i,i<h'.next->(∀off n,tm 5≠.sl i off n)->h2.obj i=h'.obj i)->h'.next<=h2.next->∃a,s.size-a<s.size-i/\∃x:List Tok,ScanI s h (a,x) ⟨tm',[]⟩ h2:=by
   intro j t hj1 hj2 hj3 tm' h2 e0 e6 e5 e5' e7 e8
   refine⟨j,by omega,acc++[t],rfl,e0,e6,e5,?_,?_,hj2,hj3,by omega,?_⟩
   ·intro id off n he;exact zR hn (e5' id off n he)
   ·simp;omega
   ·intro q hq
    rw[e7 q (by omega) ?_];exact hf q hq
    intro off n he
    have:=hin q off n he
    simp only at this;omega
  refine F44_blank (c:=c) (by simp) ?_ ?_
  ·intro hbl tm' hsame
   simp only[lexAt,hbl,zV]at hsc
   rw[zX (by omega)]at hsc
   have e0:=hsame 0 (by decide);have e5:=hsame 5 (by decide);have e6:=hsame 6 (by decide)
   simp[h0,h6]at e0 e5 e6
   simp only[F44.k4,F44.t4,e6,pBin_add,hw,thenQ]
   refine skip (i+1) (by omega) (by omega) hsc _ ?_ ?_ ?_<;>simp[e0,e5]
  intro hbl tm' hsame
  have e0:=hsame 0 (by decide);have e5:=hsame 5 (by decide);have e6:=hsame 6 (by decide);have e7:=hsame 7 (by decide);have e8:=hsame 8 (by decide);have e9:=hsame 9 (by decide)
  simp[h0,h6]at e0 e5 e6 e7 e8 e9
  clear hsame
  simp only[F44.k20,F44.t20,F44.k19,F44.t19,e7,pBin_eql]
  simp only[lexAt,hbl,zE,if_false]at hsc
  cases h35:c==35
  ·simp only[h35,zE,if_false]at hsc
   simp[-F44.k17,e7]
   refine⟨fun _=>False,fun _ h=>h.elim,letter_ok ?_⟩
   have hW:InS (fun id=>M id\/h.next<=id) (tm 5):=fun id off n he=>.inr (hin id off n he)
   simp only[F44.k17,F44.t17]
   cases hl:isLetter c
   ·simp only[hl,zE,if_false]at hsc
    simp[-F44.k15,e7]
    refine⟨fun _=>False,fun _ h=>h.elim,digit_ok ?_⟩
    simp only[F44.k15,F44.t15]
    cases hd:isDigit c
    ·simp only[hd,zE,if_false]at hsc
     simp[-F44.k13,e7]
     refine⟨fun _=>False,fun _ h=>h.elim,indexByte_ok ?_⟩
     have hix:decide (Lib.indexByte [123,125,91,93,59,44] s[i]<0)=!isSignB c:=by rw[hsg]
     simp only[pBin_lss,hcc',hix]
     cases hsb:isSignB c
     ·simp only[hsb,zE,if_false]at hsc
      rw[<-hsc]at hR
      simp[e6]
      exact hR _ hn hf
     ·simp only[hsb,zV]at hsc
      rw[zX (by omega)]at hsc
      simp[-F44.k3]
      refine F44_tok (s:=s) (i:=i) (j:=i+1) (k:=3) (acc:=acc) (x5:=tm 5) ?_ ?_ ?_ ?_ ?_ h5 hW (by omega) (by omega) (by omega) ?_<;>try (simp[e0,e5,e6,e8,e9];done)
      exact nxt _ _ (by omega) (by omega) hsc
    ·simp only[hd,zV]at hsc
     have hg:=runS_gt isDigit s i hi (by rw[hby];exact hd)
     simp[-F44.k10,e0,e6]
     refine⟨fun _=>False,fun _ h=>h.elim,run_ok digit_ok rfl hs ?_⟩
     simp only[F44.k10,F44.t10]
     generalize runS isDigit s i=j at *
     by_cases hj:j<s.size
     ·have hbj:byteAt s j=s[j].toNat:=by simp[byteAt,hj]
      simp[-F44.k8,e0,hj]
      refine⟨fun _=>False,fun _ h=>h.elim,letter_ok ?_⟩
      rw[hbj]at hsc
      cases hlj:isLetter (s[j].toNat:Nat)
      ·simp only[hlj,Bool.and_false,zE,if_false]at hsc
       rw[zX hg.1]at hsc
       simp[-F44.k3]
       refine F44_tok (s:=s) (i:=i) (j:=j) (k:=2) (acc:=acc) (x5:=tm 5) ?_ ?_ ?_ ?_ ?_ h5 hW (by omega) (by omega) (by omega) ?_<;>try (simp[e0,e5,e6,e8,e9];done)
       exact nxt _ _ (by omega) (by omega) hsc
      ·simp only[hlj,hj,decide_true,Bool.and_true,zV]at hsc
       rw[<-hsc]at hR
       simp
       exact hR _ hn hf
     ·simp only[hj,decide_false,Bool.false_and,zE,if_false]at hsc
      rw[zX hg.1]at hsc
      simp[-F44.k3,e0,hj]
      refine F44_tok (s:=s) (i:=i) (j:=j) (k:=2) (acc:=acc) (x5:=tm 5) ?_ ?_ ?_ ?_ ?_ h5 hW (by omega) (by omega) (by omega) ?_<;>try (simp[e0,e5,e6,e8,e9];done)
      exact nxt _ _ (by omega) (by omega) hsc
   ·simp only[hl,zV]at hsc
    have hg:=runS_gt isNameB s i hi (by rw[hby];simp[isNameB,hl])
    rw[zX hg.1]at hsc
    simp[-F44.k3,-F44.k16,e0,e6]
    refine⟨fun _=>False,fun _ h=>h.elim,run_ok (show Tells 68 isNameB from inName_ok) rfl hs ?_⟩
    refine F44_tok (s:=s) (i:=i) (j:=runS isNameB s i) (k:=1) (acc:=acc) (x5:=tm 5) ?_ ?_ ?_ ?_ ?_ h5 hW (by omega) (by omega) (by omega) ?_<;>try (simp[e0,e5,e6,e8,e9];done)
    exact nxt _ _ (by omega) (by omega) hsc
  ·simp only[h35,zV]at hsc
   have hg:=runS_gt (fun c=>c != 10) s i hi (by rw[hby];simp at h35;simp[h35])
   rw[zX hg.1]at hsc
   simp[-F44.k18,F44.k5,F44.t5,e0,e6]
   refine⟨fun _=>False,fun _ h=>h.elim,run_ok notNl_ok rfl hs ?_⟩
   refine skip _ hg.1 hg.2 hsc _ ?_ ?_ ?_<;>simp[e0,e5]
 ·rw[dif_neg hi]at hsc
  rw[<-hsc]at hR
  have hi':¬(i:Int)<s.size:=by omega
  simp only[F44.k32,F44.t32,F44.k31,F44.t31]
  simp[-F44.k30,h0,h6,hi]
  exact hR _ _ h5 hin hn hf
end Go.Proofs.Ytjehibknlmehmaa
