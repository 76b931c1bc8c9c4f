/- The parser in plain Lean; contracts of the reader of package parse, and of parse.Parse; where rows and faults stand. No condition. -/
import Derived.Test.YtjehibknlmehmaaGp
import Derived.Test.YtjehibknlmehmaaGs
import Derived.Test.YtjehibknlmehmaaVa
set_option maxRecDepth 100000
namespace Go.Proofs.Ytjehibknlmehmaa
section
open Go.Ab
structure Arg where
 name:ByteArray
 index:Int
structure Row where
 kind:ByteArray
 name:ByteArray
 args:List Arg
 num:Int
 rows:Int
 place:Int
abbrev Res(α:Type):=Except (Int×Int) α
abbrev sQubits:ByteArray:=⟨#[113,117,98,105,116,115]⟩
abbrev sBits:ByteArray:=⟨#[98,105,116,115]⟩
abbrev sGate:ByteArray:=⟨#[103,97,116,101]⟩
abbrev sRepeat:ByteArray:=⟨#[114,101,112,101,97,116]⟩
abbrev sIf:ByteArray:=⟨#[105,102]⟩
abbrev sMeasure:ByteArray:=⟨#[109,101,97,115,117,114,101]⟩
abbrev sReset:ByteArray:=⟨#[114,101,115,101,116]⟩
abbrev sUse:ByteArray:=⟨#[117,115,101]⟩
abbrev sEmpty:ByteArray:=⟨#[]⟩
abbrev sSemi:ByteArray:=⟨#[59]⟩
abbrev sOpen:ByteArray:=⟨#[123]⟩
abbrev sShut:ByteArray:=⟨#[125]⟩
abbrev sIxO:ByteArray:=⟨#[91]⟩
abbrev sIxC:ByteArray:=⟨#[93]⟩
def ownB(s:ByteArray):Bool:=decide (s=sQubits)||decide (s=sBits)||decide (s=sGate)||decide (s=sRepeat)||decide (s=sIf)||decide (s=sMeasure)||decide (s=sReset)
section
variable (L:List Tok) (en:Int)
def nextP(p:Nat)(w:Bool):Res Tok:=
 match L[p]? with
 |none=>.error (en,101)
 |some t=>if w then .ok t else .error (t.at_,100)
def isSignP(p:Nat)(s:ByteArray):Bool:=match L[p]? with |some t=>t.kind==3&&decide (t.text=s) |none=>false
def plainP(p:Nat):Bool:=match L[p]? with |some t=>t.kind==1&&!ownB t.text |none=>false
def isNumP(p:Nat):Bool:=match L[p]? with |some t=>t.kind==2 |none=>false
def isNameP(p:Nat):Bool:=match L[p]? with |some t=>t.kind==1 |none=>false
def nameP(p:Nat):Res ByteArray:=(nextP L en p (plainP L p)).map (·.text)
def signP(p:Nat)(s:ByteArray):Res Tok:=nextP L en p (isSignP L p s)
def valGo:List UInt8->Int->Option Int
 |[],n=>some n
 |c::l,n=>if n*10+((c.toNat:Int)-48) > 9007199254740991 then none else valGo l (n*10+((c.toNat:Int)-48))
def numberP(p:Nat):Res Int:=
 match nextP L en p (isNumP L p) with
 |.error e=>.error e
 |.ok t=>match valGo t.text.data.toList 0 with
  |some n=>.ok n
  |none=>.error (t.at_,1)
def argP(p:Nat):Res (Arg×Nat):=
 match nameP L en p with
 |.error e=>.error e
 |.ok nm=>
  if isSignP L (p+1) sIxO then
   match numberP L en (p+2) with
   |.error e=>.error e
   |.ok n=>match signP L en (p+3) sIxC with
    |.error e=>.error e
    |.ok _=>.ok (⟨nm,n⟩,p+4)
  else .ok (⟨nm,-1⟩,p+1)
def namesP:Nat->Nat->List Arg->Res (List Arg×Nat)
 |0,_,_=>.error (0,-1)
 |n+1,p,acc=>if plainP L p then
   match nameP L en p with
   |.error e=>.error e
   |.ok nm=>namesP n (p+1) (acc++[⟨nm,-1⟩])
  else .ok (acc,p)
def argsP:Nat->Nat->List Arg->Res (List Arg×Nat)
 |0,_,_=>.error (0,-1)
 |n+1,p,acc=>if plainP L p then
   match argP L en p with
   |.error e=>.error e
   |.ok (a,p')=>argsP n p' (acc++[a])
  else .ok (acc,p)
def loopP(step:Nat->Res (Nat×List Row)):Nat->Nat->List Row->Res (Nat×List Row)
 |0,_,_=>.error (0,-1)
 |n+1,p,acc=>if isSignP L p sShut then .ok (p,acc) else
   match step p with
   |.error e=>.error e
   |.ok (p',new)=>loopP step n p' (acc++new)
def bdP(k:Nat)(step:Nat->Res (Nat×List Row))(p:Nat):Res (Nat×List Row):=
 match signP L en p sOpen with
 |.error e=>.error e
 |.ok t=>match k with
  |0=>.error (t.at_,102)
  |_=>match loopP L step (L.length+1) (p+1) [] with
   |.error e=>.error e
   |.ok (p',rows)=>.ok (p'+1,rows)
def lineP(p:Nat)(row:Row):Res (Nat×List Row):=
 match signP L en p sSemi with
 |.error e=>.error e
 |.ok _=>.ok (p+1,[row])
def heldP(k:Nat)(step:Nat->Res (Nat×List Row))(p:Nat)(row:Row):Res (Nat×List Row):=
 match bdP L en k step p with
 |.error e=>.error e
 |.ok (p',rows)=>.ok (p',{ row with rows:=rows.length }::rows)
def stmtP:Nat->Nat->Res (Nat×List Row)
 |k,p=>
  let step:Nat->Res (Nat×List Row):=match k with |0=>fun _=>.error (0,-1) |k'+1=>stmtP k'
  match nextP L en p (isNameP L p) with
  |.error e=>.error e
  |.ok t=>
   if t.text=sQubits\/t.text=sBits then
    match nameP L en (p+1) with
    |.error e=>.error e
    |.ok nm=>match numberP L en (p+2) with
     |.error e=>.error e
     |.ok n=>lineP L en (p+3) ⟨t.text,nm,[],n,0,t.at_⟩
   else if t.text=sGate then
    match nameP L en (p+1) with
    |.error e=>.error e
    |.ok nm=>match namesP L en (L.length+1) (p+2) [] with
     |.error e=>.error e
     |.ok (l,p')=>heldP L en k step p' ⟨t.text,nm,l,0,0,t.at_⟩
   else if t.text=sRepeat then
    match numberP L en (p+1) with
    |.error e=>.error e
    |.ok n=>heldP L en k step (p+2) ⟨t.text,sEmpty,[],n,0,t.at_⟩
   else if t.text=sIf then
    match nameP L en (p+1) with
    |.error e=>.error e
    |.ok nm=>match numberP L en (p+2) with
     |.error e=>.error e
     |.ok n=>heldP L en k step (p+3) ⟨t.text,nm,[],n,0,t.at_⟩
   else if t.text=sMeasure then
    match argP L en (p+1) with
    |.error e=>.error e
    |.ok (a,p1)=>match argP L en p1 with
     |.error e=>.error e
     |.ok (b,p2)=>lineP L en p2 ⟨t.text,sEmpty,[a,b],0,0,t.at_⟩
   else if t.text=sReset then
    match argP L en (p+1) with
    |.error e=>.error e
    |.ok (a,p1)=>lineP L en p1 ⟨t.text,sEmpty,[a],0,0,t.at_⟩
   else
    match argsP L en (L.length+1) (p+1) [] with
    |.error e=>.error e
    |.ok (l,p')=>lineP L en p' ⟨sUse,t.text,l,0,0,t.at_⟩
def topP:Nat->Nat->List Row->Res (List Row)
 |0,_,_=>.error (0,-1)
 |n+1,p,acc=>if p<L.length then
   match stmtP L en 32 p with
   |.error e=>.error e
   |.ok (p',new)=>topP n p' (acc++new)
  else .ok acc
end
end
section
open Go.Ab
section
variable {L:List Tok} {en:Int}
def stepP(L:List Tok)(en:Int)(k:Nat):Nat->Res (Nat×List Row):=match k with |0=>fun _=>.error (0,-1) |k'+1=>stmtP L en k'
def stmtB(L:List Tok)(en:Int)(k:Nat)(step:Nat->Res (Nat×List Row))(p:Nat)(t:Tok):Res (Nat×List Row):=
 if t.text=sQubits\/t.text=sBits then
  match nameP L en (p+1) with
  |.error e=>.error e
  |.ok nm=>match numberP L en (p+2) with
   |.error e=>.error e
   |.ok n=>lineP L en (p+3) ⟨t.text,nm,[],n,0,t.at_⟩
 else if t.text=sGate then
  match nameP L en (p+1) with
  |.error e=>.error e
  |.ok nm=>match namesP L en (L.length+1) (p+2) [] with
   |.error e=>.error e
   |.ok (l,p')=>heldP L en k step p' ⟨t.text,nm,l,0,0,t.at_⟩
 else if t.text=sRepeat then
  match numberP L en (p+1) with
  |.error e=>.error e
  |.ok n=>heldP L en k step (p+2) ⟨t.text,sEmpty,[],n,0,t.at_⟩
 else if t.text=sIf then
  match nameP L en (p+1) with
  |.error e=>.error e
  |.ok nm=>match numberP L en (p+2) with
   |.error e=>.error e
   |.ok n=>heldP L en k step (p+3) ⟨t.text,nm,[],n,0,t.at_⟩
 else if t.text=sMeasure then
  match argP L en (p+1) with
  |.error e=>.error e
  |.ok (a,p1)=>match argP L en p1 with
   |.error e=>.error e
   |.ok (b,p2)=>lineP L en p2 ⟨t.text,sEmpty,[a,b],0,0,t.at_⟩
 else if t.text=sReset then
  match argP L en (p+1) with
  |.error e=>.error e
  |.ok (a,p1)=>lineP L en p1 ⟨t.text,sEmpty,[a],0,0,t.at_⟩
 else
  match argsP L en (L.length+1) (p+1) [] with
  |.error e=>.error e
  |.ok (l,p')=>lineP L en p' ⟨sUse,t.text,l,0,0,t.at_⟩
theorem stmtP_eq(k p:Nat):stmtP L en k p=(match nextP L en p (isNameP L p) with |.error e=>.error e |.ok t=>stmtB L en k (stepP L en k) p t):=by
 cases k<;>rfl
theorem nextP_ok{p:Nat}{w:Bool}{t:Tok}(h:nextP L en p w=.ok t):p<L.length/\L[p]?=some t/\w=true:=by
 unfold nextP at h
 cases hg:L[p]? with
 |none=>rw[hg]at h;cases h
 |some t'=>
  rw[hg]at h
  cases w
  ·cases h
  ·cases h;exact⟨(zM.1 hg).1,rfl,rfl⟩
theorem nameP_ok{p:Nat}{s:ByteArray}(h:nameP L en p=.ok s):p<L.length/\∃t,L[p]?=some t/\t.text=s/\plainP L p=true:=by
 unfold nameP at h
 cases hn:nextP L en p (plainP L p) with
 |error e=>rw[hn]at h;cases h
 |ok t=>
  rw[hn]at h;cases h
  have:=nextP_ok hn
  exact⟨this.1,t,this.2.1,rfl,this.2.2⟩
theorem signP_ok{p:Nat}{s:ByteArray}{t:Tok}(h:signP L en p s=.ok t):p<L.length:=(nextP_ok h).1
theorem numberP_ok{p:Nat}{n:Int}(h:numberP L en p=.ok n):p<L.length:=by
 unfold numberP at h
 cases hn:nextP L en p (isNumP L p) with
 |error e=>rw[hn]at h;cases h
 |ok t=>exact(nextP_ok hn).1
theorem argP_ok{p p':Nat}{a:Arg}(h:argP L en p=.ok (a,p')):p<p'/\p'<=L.length:=by
 unfold argP at h
 cases hn:nameP L en p with
 |error e=>rw[hn]at h;cases h
 |ok nm=>
  have h1:=(nameP_ok hn).1
  rw[hn]at h
  simp only at h
  split at h
  ·cases hu:numberP L en (p+2) with
   |error e=>rw[hu]at h;cases h
   |ok n=>
    rw[hu]at h
    cases hs:signP L en (p+3) sIxC with
    |error e=>rw[hs]at h;cases h
    |ok t=>
     rw[hs]at h;cases h
     have:=signP_ok hs
     omega
  ·cases h;omega
theorem namesP_ok:∀(n p:Nat)(acc:List Arg){l:List Arg}{p':Nat},p<=L.length->namesP L en n p acc=.ok (l,p')->p<=p'/\p'<=L.length/\l.length+p=acc.length+p'
 |0,_,_,_,_,_,h=>by simp[namesP]at h
 |n+1,p,acc,l,p',hp,h=>by
  simp only[namesP]at h
  split at h
  ·cases hn:nameP L en p with
   |error e=>rw[hn]at h;cases h
   |ok nm=>
    rw[hn]at h
    have h1:=(nameP_ok hn).1
    have:=namesP_ok n (p+1) _ (by omega) h
    simp at this;omega
  ·cases h;omega
theorem argsP_ok:∀(n p:Nat)(acc:List Arg){l:List Arg}{p':Nat},p<=L.length->argsP L en n p acc=.ok (l,p')->p<=p'/\p'<=L.length/\l.length+p<=acc.length+p'
 |0,_,_,_,_,_,h=>by simp[argsP]at h
 |n+1,p,acc,l,p',hp,h=>by
  simp only[argsP]at h
  split at h
  ·cases hn:argP L en p with
   |error e=>rw[hn]at h;cases h
   |ok x=>
    obtain⟨a,p1⟩:=x
    rw[hn]at h
    have h1:=argP_ok hn
    have:=argsP_ok n p1 _ (by omega) h
    simp at this;omega
  ·cases h;omega
def StepB(L:List Tok)(step:Nat->Res (Nat×List Row)):Prop:=∀p p' new,step p=.ok (p',new)->p<p'/\p'<=L.length/\new.length+p<=p'
theorem loopP_ok{step:Nat->Res (Nat×List Row)}(hs:StepB L step):∀(n p:Nat)(acc:List Row){l:List Row}{p':Nat},loopP L step n p acc=.ok (p',l)->p<=p'/\p'<L.length/\l.length+p<=acc.length+p'
 |0,_,_,_,_,h=>by simp[loopP]at h
 |n+1,p,acc,l,p',h=>by
  simp only[loopP]at h
  split at h
  ·rename_i hsg
   cases h
   unfold isSignP at hsg
   cases hg:L[p]? with
   |none=>rw[hg]at hsg;cases hsg
   |some t=>
    have:=(zM.1 hg).1
    omega
  ·cases hn:step p with
   |error e=>rw[hn]at h;cases h
   |ok x=>
    obtain⟨p1,new⟩:=x
    rw[hn]at h
    have h1:=hs _ _ _ hn
    have:=loopP_ok hs n p1 _ h
    simp at this;omega
theorem bdP_ok{k:Nat}{step:Nat->Res (Nat×List Row)}(hs:StepB L step){p p':Nat}{l:List Row}(h:bdP L en k step p=.ok (p',l)):p<p'/\p'<=L.length/\l.length+p<p':=by
 unfold bdP at h
 cases hn:signP L en p sOpen with
 |error e=>rw[hn]at h;cases h
 |ok t=>
  rw[hn]at h
  cases k with
  |zero=>cases h
  |succ k=>
   simp only at h
   cases hl:loopP L step (L.length+1) (p+1) [] with
   |error e=>rw[hl]at h;cases h
   |ok x=>
    obtain⟨p1,rows⟩:=x
    rw[hl]at h
    cases h
    have:=loopP_ok hs _ _ _ hl
    simp at this;omega
theorem lineP_ok{p p':Nat}{row:Row}{l:List Row}(h:lineP L en p row=.ok (p',l)):p'=p+1/\p'<=L.length/\l=[row]:=by
 unfold lineP at h
 cases hn:signP L en p sSemi with
 |error e=>rw[hn]at h;cases h
 |ok t=>rw[hn]at h;cases h;have:=signP_ok hn;exact⟨rfl,by omega,rfl⟩
theorem heldP_ok{k:Nat}{step:Nat->Res (Nat×List Row)}(hs:StepB L step){p p':Nat}{row:Row}{l:List Row}(h:heldP L en k step p row=.ok (p',l)):p<p'/\p'<=L.length/\l.length+p<=p':=by
 unfold heldP at h
 cases hn:bdP L en k step p with
 |error e=>rw[hn]at h;cases h
 |ok x=>obtain⟨p1,rows⟩:=x;rw[hn]at h;cases h;have:=bdP_ok hs hn;simp;omega
theorem stmtB_ok{k:Nat}{step:Nat->Res (Nat×List Row)}(hs:StepB L step){p p':Nat}{t:Tok}{l:List Row}(hp:p<L.length)(h:stmtB L en k step p t=.ok (p',l)):p<p'/\p'<=L.length/\l.length+p<=p':=by
 unfold stmtB at h
 split at h
 ·cases h1:nameP L en (p+1) with
  |error e=>rw[h1]at h;cases h
  |ok nm=>
   rw[h1]at h;simp only at h
   cases h2:numberP L en (p+2) with
   |error e=>rw[h2]at h;cases h
   |ok n=>rw[h2]at h;obtain⟨rfl,a,rfl⟩:=lineP_ok h;simp;omega
 split at h
 ·cases h1:nameP L en (p+1) with
  |error e=>rw[h1]at h;cases h
  |ok nm=>
   rw[h1]at h;simp only at h
   have:=(nameP_ok h1).1
   cases h2:namesP L en (L.length+1) (p+2) [] with
   |error e=>rw[h2]at h;cases h
   |ok x=>obtain⟨l2,p2⟩:=x;rw[h2]at h;have a:=namesP_ok _ _ _ (by omega) h2;have b:=heldP_ok hs h;omega
 split at h
 ·cases h1:numberP L en (p+1) with
  |error e=>rw[h1]at h;cases h
  |ok n=>rw[h1]at h;have b:=heldP_ok hs h;omega
 split at h
 ·cases h1:nameP L en (p+1) with
  |error e=>rw[h1]at h;cases h
  |ok nm=>
   rw[h1]at h;simp only at h
   cases h2:numberP L en (p+2) with
   |error e=>rw[h2]at h;cases h
   |ok n=>rw[h2]at h;have b:=heldP_ok hs h;omega
 split at h
 ·cases h1:argP L en (p+1) with
  |error e=>rw[h1]at h;cases h
  |ok x=>
   obtain⟨a,p1⟩:=x
   rw[h1]at h;simp only at h
   have:=argP_ok h1
   cases h2:argP L en p1 with
   |error e=>rw[h2]at h;cases h
   |ok y=>obtain⟨b,p2⟩:=y;rw[h2]at h;have:=argP_ok h2;obtain⟨rfl,a,rfl⟩:=lineP_ok h;simp;omega
 split at h
 ·cases h1:argP L en (p+1) with
  |error e=>rw[h1]at h;cases h
  |ok x=>
   obtain⟨a,p1⟩:=x
   rw[h1]at h;simp only at h
   have:=argP_ok h1
   obtain⟨rfl,a,rfl⟩:=lineP_ok h;simp;omega
 ·cases h1:argsP L en (L.length+1) (p+1) [] with
  |error e=>rw[h1]at h;cases h
  |ok x=>
   obtain⟨l2,p2⟩:=x
   rw[h1]at h;simp only at h
   have:=argsP_ok _ _ _ (by omega) h1
   obtain⟨rfl,a,rfl⟩:=lineP_ok h;simp;omega
theorem stmtP_ok:∀(k:Nat),StepB L (stmtP L en k):=by
 have key:∀k,StepB L (stepP L en k)->StepB L (stmtP L en k):=by
  intro k hk p p' new h
  rw[stmtP_eq]at h
  cases h1:nextP L en p (isNameP L p) with
  |error e=>rw[h1]at h;cases h
  |ok t=>rw[h1]at h;exact stmtB_ok hk (nextP_ok h1).1 h
 intro k
 induction k with
 |zero=>exact key 0 (fun _ _ _ h=>by simp[stepP]at h)
 |succ k ih=>exact key (k+1) ih
end
end
section
open Go.Ab
abbrev oToks(l:List Tok):AO:=mkO (l.flatMap Tok.enc) 3 126
abbrev oRd(tk n:Nat)(p en:Int)(rv:AV):AO:=mkO [.sl tk 0 n,.sc (.int .i64 p),.sc (.int .i64 en),rv] 4 105
def faultV(e:Int×Int):AV:=.ifc 101 (.agg [.sc (.int .i64 e.1),.sc (.int .i64 e.2)])
def Outc{α:Type}(x:Res α)(K:α->Prop)(KP:Int×Int->Prop):Prop:=match x with |.ok a=>K a |.error e=>KP e
theorem ag38:aggOf Try.prog 126=some true:=by kernel_rfl
theorem sz38:szOf Try.prog 126=some 3:=by kernel_rfl
section
variable {h:AH} {r tk:Nat} {L:List Tok} {en:Int} {rv:AV} {M:Nat->Prop} {R:AE->AH->Prop} {p:Nat}
theorem own_ok{s:ByteArray}(hR:R (.ret (.sc (.bool (ownB s)))) h):ACalls Try.prog 88 [.sc (.string s)] h M R:=by
 apply F88.calls
 unfold ownB at hR
 by_cases h1:s=sQubits
 ·simp[h1]at hR;simp[h1,hR]
 by_cases h2:s=sBits
 ·simp[h1,h2]at hR;simp[h1,h2,hR]
 by_cases h3:s=sGate
 ·simp[h1,h2,h3]at hR;simp[h1,h2,h3,hR]
 by_cases h4:s=sRepeat
 ·simp[h1,h2,h3,h4]at hR;simp[h1,h2,h3,h4,hR]
 by_cases h5:s=sIf
 ·simp[h1,h2,h3,h4,h5]at hR;simp[h1,h2,h3,h4,h5,hR]
 by_cases h6:s=sMeasure
 ·simp[h1,h2,h3,h4,h5,h6]at hR;simp[h1,h2,h3,h4,h5,h6,hR]
 by_cases h7:s=sReset
 ·simp[h1,h2,h3,h4,h5,h6,h7]at hR;simp[h1,h2,h3,h4,h5,h6,h7,hR]
 simp[h1,h2,h3,h4,h5,h6,h7]at hR;simp[h1,h2,h3,h4,h5,h6,h7,hR]
theorem peek_ok{sg:ByteArray}(hr:h.obj r=some (oRd tk L.length p en rv))(ht:h.obj tk=some (oToks L))(hR:R (.ret (.sc (.bool (isSignP L p sg)))) h):ACalls Try.prog 87 [.ptr r 0,.sc (.string sg)] h M R:=by
 apply F87.calls
 unfold isSignP at hR
 by_cases hlt:p<L.length
 ·by_cases hk:L[p].kind=3
  ·simp[hlt,hk]at hR
   simp[hr,hlt,ht,flat_get0 Tok.enc_len,flat_get Tok.enc_len,Tok.enc,hk]
   exact hR
  ·simp[hlt,hk]at hR
   have hk':(L[p].kind==3)=false:=by simpa using hk
   rw[hk']at hR
   simp[hr,hlt,ht,flat_get0 Tok.enc_len,flat_get Tok.enc_len,Tok.enc,hk]
   exact hR
 ·simp[hlt]at hR
  simp[hr,hlt]
  exact hR
theorem plain_ok(hr:h.obj r=some (oRd tk L.length p en rv))(ht:h.obj tk=some (oToks L))(hR:R (.ret (.sc (.bool (plainP L p)))) h):ACalls Try.prog 75 [.ptr r 0] h M R:=by
 apply F75.calls
 unfold plainP at hR
 by_cases hlt:p<L.length
 ·by_cases hk:L[p].kind=1
  ·simp[hlt,hk]at hR
   simp[hr,hlt,ht,flat_get0 Tok.enc_len,flat_get Tok.enc_len,Tok.enc,hk]
   refine⟨fun _=>False,fun _ h=>h.elim,own_ok ?_⟩
   simp
   exact hR
  ·simp[hlt,hk]at hR
   have hk':(L[p].kind==1)=false:=by simpa using hk
   rw[hk']at hR
   simp[hr,hlt,ht,flat_get0 Tok.enc_len,flat_get Tok.enc_len,Tok.enc,hk]
   exact hR
 ·simp[hlt]at hR
  simp[hr,hlt]
  exact hR
theorem next_ok{wt:Bool}(hM:M r)(hL:L.length<=65536)(hr:h.obj r=some (oRd tk L.length p en rv))(ht:h.obj tk=some (oToks L))
  (hR:Outc (nextP L en p wt) (fun t=>∀h',Fr h h' (·=r)->h'.obj r=some (oRd tk L.length (p+1:Nat) en rv)->R (.ret (.agg t.enc)) h') (fun e=>∀h',Fr h h' (·=r)->R (.pan (faultV e)) h')) :
  ACalls Try.prog 71 [.ptr r 0,.sc (.bool wt)] h M R:=by
 have hrn:=h.lt _ _ hr
 have htn:=h.lt _ _ ht
 apply F71.calls
 unfold nextP Outc at hR
 by_cases hlt:p<L.length
 ·have hg:L[p]?=some L[p]:=zJ hlt
  have hge:¬(L.length:Int)<=p:=by omega
  have hw:IntKind.i64.wrap ((p:Int)+1)=(p:Int)+1:=wrap_in (by omega) (by omega)
  cases wt
  ·simp[hlt]at hR
   simp[hr,ht,hlt,hge,hw,hM,AH.alloc_obj,AH.alloc_next,AH.put_obj,AH.put_next,nel hrn,nel htn,flat_get0 Tok.enc_len,flat_get Tok.enc_len,ag38,sz38,flat_drop Tok.enc_len _ _ _ hg,Tok.enc,sum_const]
   refine⟨by omega,?_⟩
   exact hR _ (((Fr.refl.alloc _).alloc _).put (.inr (Nat.le_succ _)))
  ·simp[hlt]at hR
   simp[hr,ht,hlt,hge,hw,hM,AH.alloc_obj,AH.alloc_next,AH.put_obj,AH.put_next,nel hrn,nel htn,flat_get0 Tok.enc_len,flat_get Tok.enc_len,ag38,sz38,flat_drop Tok.enc_len _ _ _ hg,Tok.enc,sum_const]
   refine⟨by omega,?_⟩
   refine hR _ ?_ ?_
   ·(repeat' first |exact Fr.refl |refine Fr.alloc ?_ _ |refine Fr.put ?_ ?_)<;>first |exact .inl rfl |exact .inr (by omega)
   simp[AH.alloc_obj,AH.alloc_next,AH.put_obj,AH.put_next,nel hrn,hr]
 ·simp[hlt]at hR
  have hge:L.length<=p:=by omega
  simp[hr,hlt,hge,nel hrn,AH.alloc_obj]
  exact hR _ (Fr.refl.alloc _)
theorem sign_ok{sg:ByteArray}(hM:M r)(hL:L.length<=65536)(hr:h.obj r=some (oRd tk L.length p en rv))(ht:h.obj tk=some (oToks L))
  (hR:Outc (signP L en p sg) (fun t=>∀h',Fr h h' (·=r)->h'.obj r=some (oRd tk L.length (p+1:Nat) en rv)->R (.ret (.agg t.enc)) h') (fun e=>∀h',Fr h h' (·=r)->R (.pan (faultV e)) h')) :
  ACalls Try.prog 74 [.ptr r 0,.sc (.string sg)] h M R:=by
 have hrn:=h.lt _ _ hr
 have htn:=h.lt _ _ ht
 apply F74.calls
 simp[ag38,sz38]
 have hr1:(h.alloc (mkO [.sc (.int .i64 0),.sc (.string ⟨#[]⟩),.sc (.int .i64 0)] 3 126)).obj r=some (oRd tk L.length p en rv):=by rw[AH.alloc_old hrn];exact hr
 have ht1:(h.alloc (mkO [.sc (.int .i64 0),.sc (.string ⟨#[]⟩),.sc (.int .i64 0)] 3 126)).obj tk=some (oToks L):=by rw[AH.alloc_old htn];exact ht
 refine⟨fun _=>False,fun _ h=>h.elim,peek_ok hr1 ht1 ?_⟩
 refine⟨(·=r),fun _ h _=>h ▸ .inl hM,next_ok rfl hL hr1 ht1 ?_⟩
 show Outc (signP L en p sg) _ _
 have hf:=(Fr.refl (h:=h) (S:=(·=r))).alloc (mkO [.sc (.int .i64 0),.sc (.string ⟨#[]⟩),.sc (.int .i64 0)] 3 126)
 cases hs:signP L en p sg with
 |error e=>
  rw[hs]at hR
  intro h' h1
  exact⟨rfl,hR _ (hf.trans (h1.mono fun _ h=>.inl h))⟩
 |ok t=>
  rw[hs]at hR
  intro h' h1 h2
  have h3:=h1.obj (AH.alloc_new _ _) (nel hrn).2.1
  have h4:=h1.next
  simp only[AH.alloc_next]at h4
  simp[h3,AH.put_obj,Tok.enc]
  refine hR _ ((hf.trans (h1.mono fun _ h=>.inl h)).put (.inr (zU _))) ?_
  rw[AH.put_old (nel hrn).1];exact h2
theorem name_ok(hM:M r)(hL:L.length<=65536)(hr:h.obj r=some (oRd tk L.length p en rv))(ht:h.obj tk=some (oToks L))
  (hR:Outc (nameP L en p) (fun s=>∀h',Fr h h' (·=r)->h'.obj r=some (oRd tk L.length (p+1:Nat) en rv)->R (.ret (.sc (.string s))) h') (fun e=>∀h',Fr h h' (·=r)->R (.pan (faultV e)) h')) :
  ACalls Try.prog 72 [.ptr r 0] h M R:=by
 apply F72.calls
 simp
 refine⟨fun _=>False,fun _ h=>h.elim,plain_ok hr ht ?_⟩
 refine⟨(·=r),fun _ h _=>h ▸ .inl hM,next_ok rfl hL hr ht ?_⟩
 unfold nameP at hR
 cases hs:nextP L en p (plainP L p) with
 |error e=>
  rw[hs]at hR
  intro h' h1
  exact⟨rfl,hR _ h1⟩
 |ok t=>
  rw[hs]at hR
  intro h' h1 h2
  have:=hR _ h1 h2
  simpa[pFdV,Tok.enc] using this
end
end
section
open Go.Ab
def Digits(L:List Tok):Prop:=∀t∈L,t.kind=2->∀c∈t.text.data.toList,48<=c.toNat/\c.toNat<=57
abbrev oTok(t:Tok):AO:=mkO [.sc (.int .i64 t.kind),.sc (.string t.text),.sc (.int .i64 t.at_)] 3 126
abbrev oIter(s:ByteArray)(i:Nat):AO:={ cells:=[],sz:=0,ty:=0,kind:=.iter s i }
theorem drop_at(s:ByteArray)(i:Nat)(h:i<s.size):s.data.toList.drop i=s[i]::s.data.toList.drop (i+1):=by
 rw[List.drop_eq_getElem_cons (by simpa using h)];rfl
section
variable {W:Nat->Prop} {Q:Post} {QP:PPost} {h:AH} {tm:Nat->AV} {tc:Nat} {t:Tok}
theorem F73_tail(hW:∀id,h.next<=id->W id)(hs:t.text.size<=65536)(hd:∀c∈t.text.data.toList,48<=c.toNat/\c.toNat<=57)(h3:tm 3=.ptr tc 0)(hc:h.obj tc=some (oTok t))
  (hQ:match valGo t.text.data.toList 0 with
   |some n=>∀tm' h',tm' 2=.sc (.int .i64 n)->Fr h h' (fun _=>False)->Q .ret ⟨tm',[]⟩ h'
   |none=>∀h',Fr h h' (fun _=>False)->QP [] (faultV (t.at_,1)) h'):F73.k10 W Q QP ⟨tm,[]⟩ h:=by
 simp[-F73.k8,h3,hc,eRange]
 unfold F73.k8
 have hcn:=h.lt _ _ hc
 refine aLoop_of (ι:=Nat) (fun i s' h'=>s'.ds=[]/\s'.tm 3=.ptr tc 0/\s'.tm 35=.ptr h.next 0/\i<=t.text.size/\h'.obj h.next=some (oIter t.text i)/\Fr h h' (fun _=>False) /\
  ∃n:Int,0<=n/\n<=9007199254740991/\s'.tm 4=.sc (.int .i64 n)/\valGo (t.text.data.toList.drop i) n=valGo t.text.data.toList 0) (fun i=>t.text.size-i) 0 ?_ ?_
 ·refine⟨rfl,by simp[h3],by simp,by omega,AH.alloc_new _ _,Fr.refl.alloc _,0,by omega,by omega,by simp,rfl⟩
 rintro i ⟨tm',ds⟩ h' ⟨rfl,e3,e35,hi,hit,hf,n,hn0,hn1,e4,hv⟩
 simp only at e3 e35 e4
 rw[F73.l1]
 simp only[F73.k7,F73.t7,e35,eNext]
 refine⟨_,t.text,i,⟨hW _ (zU _),hit,rfl,rfl⟩,?_⟩
 have hc':=hf.obj hc (fun h=>h)
 by_cases hlt:i<t.text.size
 ·rw[zX hlt]
  have hmem:t.text[i]∈t.text.data.toList:=by
   have:t.text.data.toList.drop i=t.text[i]::t.text.data.toList.drop (i+1):=drop_at _ _ hlt
   exact List.mem_of_mem_drop (i:=i) (by rw[this];simp)
  obtain⟨d0,d1⟩:=hd _ hmem
  rw[decode_ascii _ _ hlt (by omega)]
  rw[drop_at _ _ hlt]at hv
  simp only[valGo]at hv
  generalize t.text[i].toNat=c at *
  have w1:IntKind.i64.wrap (n*10)=n*10:=wrap_in (by omega) (by omega)
  have w2:IntKind.i32.wrap ((c:Int)-48)=(c:Int)-48:=IntWalk.i32_in _ (by omega)
  have w3:IntKind.i64.wrap ((c:Int)-48)=(c:Int)-48:=wrap_in (by omega) (by omega)
  have w4:IntKind.i64.wrap (n*10+((c:Int)-48))=n*10+((c:Int)-48):=wrap_in (by omega) (by omega)
  by_cases hgt:n*10+((c:Int)-48) > 9007199254740991
  ·rw[zX hgt]at hv
   rw[<-hv]at hQ
   have hgt':9007199254740991<n*10+((c:Int)-48):=hgt
   simp[e3,e4,w1,w2,w3,w4,hgt',AH.setKind_obj,nel hcn,hc']
   exact hQ _ (hf.setKind0 (zU _))
  ·rw[zW hgt]at hv
   have hgt':¬9007199254740991<n*10+((c:Int)-48):=hgt
   simp[e3,e4,e35,w1,w2,w3,w4,hgt']
   exact⟨i+1,by omega,by omega,by simp[AH.setKind_obj,hit],hf.setKind0 (zU _),n*10+((c:Int)-48),by omega,by omega,rfl,hv⟩
 ·rw[zW hlt]
  have:t.text.data.toList.drop i=[]:=List.drop_eq_nil_of_le (by simp;omega)
  rw[this]at hv
  simp only[valGo]at hv
  rw[<-hv]at hQ
  simp[e4]
  exact hQ _ _ (by simp) hf
end
section
variable {h:AH} {r tk:Nat} {L:List Tok} {en:Int} {rv:AV} {M:Nat->Prop} {R:AE->AH->Prop} {p:Nat}
theorem number_ok(hM:M r)(hL:L.length<=65536)(hD:Digits L)(hT:∀t∈L,t.text.size<=65536)(hr:h.obj r=some (oRd tk L.length p en rv))(ht:h.obj tk=some (oToks L))
  (hR:Outc (numberP L en p) (fun n=>∀h',Fr h h' (·=r)->h'.obj r=some (oRd tk L.length (p+1:Nat) en rv)->R (.ret (.sc (.int .i64 n))) h') (fun e=>∀h',Fr h h' (·=r)->R (.pan (faultV e)) h')) :
  ACalls Try.prog 73 [.ptr r 0] h M R:=by
 have hrn:=h.lt _ _ hr
 have htn:=h.lt _ _ ht
 apply F73.calls
 unfold numberP at hR
 have tail:∀(t:Tok)(tm:Nat->AV)(tc:Nat)(h1:AH),nextP L en p (isNumP L p)=.ok t->tm 3=.ptr tc 0->h1.obj tc=some (oTok t)->h.next<=tc->Fr h h1 (·=r)->h1.obj r=some (oRd tk L.length (p+1:Nat) en rv)->F73.k10 (fun id=>M id\/h.next<=id) (Ab.bodyQ Try.prog [.tmp 2] R) (Ab.bodyP R) ⟨tm,[]⟩ h1:=by
  intro t tm tc h1 hx h3 hc hcn hf hr1
  rw[hx]at hR
  have hmem:t∈L/\t.kind=2:=by
   unfold nextP isNumP at hx
   cases hg:L[p]? with
   |none=>rw[hg]at hx;cases hx
   |some t'=>
    rw[hg]at hx
    simp only at hx
    split at hx
    ·cases hx;exact⟨zP hg,by simp_all⟩
    ·cases hx
  refine F73_tail (t:=t) (fun id hid=>.inr (zR hf.next hid)) (hT _ hmem.1) (hD _ hmem.1 hmem.2) h3 hc ?_
  cases hv:valGo t.text.data.toList 0 with
  |none=>
   simp only[hv]at hR
   intro h' hf'
   simp
   exact hR _ (hf.trans (hf'.mono fun _ h=>h.elim))
  |some n=>
   simp only[hv]at hR
   intro tm' h' e2 hf'
   simp[e2]
   exact hR _ (hf.trans (hf'.mono fun _ h=>h.elim)) (hf'.obj hr1 (fun h=>h))
 have he:∀e,nextP L en p (isNumP L p)=.error e->∀h',Fr h h' (·=r)->R (.pan (faultV e)) h':=by
  intro e hx;rw[hx]at hR;exact hR
 have A1:∀(tmf:AV->AV->Nat->AV),(∀a b,tmf a b 3=b)->aCall Try.prog (fun id=>M id\/h.next<=id) 71 [.ptr r 0,.sc (.bool (isNumP L p))] h (fun t44 h45=>eAlloc (some [.int .i64 0,.string ⟨#[]⟩,.int .i64 0]) 3 126 h45 fun t46 h47=>
   eStore (some 3) t46 t44 h47 (fun id=>M id\/h.next<=id) fun h48=>F73.k10 (fun id=>M id\/h.next<=id) (Ab.bodyQ Try.prog [.tmp 2] R) (Ab.bodyP R) ⟨tmf t44 t46,[]⟩ h48) (Ab.bodyP R []):=by
  intro tmf htm
  refine⟨(·=r),fun _ h _=>h ▸ .inl hM,next_ok rfl hL hr ht ?_⟩
  cases hx:nextP L en p (isNumP L p) with
  |error e=>intro h' h1;exact⟨rfl,he e hx h' h1⟩
  |ok t=>
   intro h' h1 h2
   have h3:=h1.next
   have h4:=h'.lt _ _ h2
   simp[-F73.k10,Tok.enc,AH.alloc_obj,h3]
   refine tail t _ h'.next _ hx (by rw[htm]) (by simp[AH.put_obj,AH.alloc_obj]) h3 ((h1.alloc _).put (.inr h3)) (by simp[AH.put_obj,AH.alloc_obj,nel h4,h2])
 have A2:∀(tmf:AV->AV->Nat->AV),(∀a b,tmf a b 3=b)->eAlloc (some [.int .i64 0,.string ⟨#[]⟩,.int .i64 0]) 3 126 h fun t49 h50=>aCall Try.prog (fun id=>M id\/h.next<=id) 71 [.ptr r 0,.sc (.bool (isNumP L p))] h50 (fun t51 h52=>
   eStore (some 3) t49 t51 h52 (fun id=>M id\/h.next<=id) fun h53=>F73.k10 (fun id=>M id\/h.next<=id) (Ab.bodyQ Try.prog [.tmp 2] R) (Ab.bodyP R) ⟨tmf t51 t49,[]⟩ h53) (Ab.bodyP R []):=by
  intro tmf htm
  simp only[eAlloc_d]
  refine⟨rfl,(·=r),fun _ h _=>h ▸ .inl hM,next_ok rfl hL (p:=p) (L:=L) (tk:=tk) (en:=en) (rv:=rv) (by rw[AH.alloc_old hrn];exact hr) (by rw[AH.alloc_old htn];exact ht) ?_⟩
  have hf:=(Fr.refl (h:=h) (S:=(·=r))).alloc (mkO ([.int .i64 0,.string ⟨#[]⟩,.int .i64 0].map .sc) 3 126)
  cases hx:nextP L en p (isNumP L p) with
  |error e=>intro h' h1;exact⟨rfl,he e hx h' (hf.trans (h1.mono fun _ h=>.inl h))⟩
  |ok t=>
   intro h' h1 h2
   have h3:=h1.obj (AH.alloc_new _ _) (nel hrn).2.1
   have h4:=h1.next
   simp only[AH.alloc_next]at h4
   simp[-F73.k10,Tok.enc,h3]
   refine tail t _ h.next _ hx (by rw[htm]) (by simp[AH.put_obj,h3]) (zU _) ((hf.trans (h1.mono fun _ h=>.inl h)).put (.inr (zU _))) (by simp[AH.put_obj,nel hrn,h2])
 by_cases hlt:p<L.length
 ·by_cases hk:L[p].kind=2
  ·have hw:isNumP L p=true:=by simp[isNumP,hlt,hk]
   simp only[hw]at A1 A2
   simp[-F73.k10,-eAlloc_d,-eStore_f,hr,ht,hlt,flat_get0 Tok.enc_len,flat_get Tok.enc_len,Tok.enc,hk]
   exact⟨A1 _ (fun _ _=>by simp),A2 _ (fun _ _=>by simp)⟩
  ·have hw:isNumP L p=false:=by simp[isNumP,hlt,hk]
   have hkb:(L[p].kind==2)=false:=by simpa using hk
   simp only[hw]at A1 A2
   simp[-F73.k10,-eAlloc_d,-eStore_f,hr,ht,hlt,flat_get0 Tok.enc_len,flat_get Tok.enc_len,Tok.enc,hkb]
   exact⟨A1 _ (fun _ _=>by simp),A2 _ (fun _ _=>by simp)⟩
 ·have hw:isNumP L p=false:=by simp[isNumP,hlt]
  simp only[hw]at A1 A2
  simp[-F73.k10,-eAlloc_d,-eStore_f,hr,hlt]
  exact⟨A1 _ (fun _ _=>by simp),A2 _ (fun _ _=>by simp)⟩
end
end
section
open Go.Ab
def Arg.enc(a:Arg):List AV:=[.sc (.string a.name),.sc (.int .i64 a.index)]
theorem Arg.enc_len(a:Arg):a.enc.length=2:=rfl
theorem Arg.enc_one(a:Arg):a.enc.all oneA=true:=rfl
theorem ag53:aggOf Try.prog 44=some true:=by kernel_rfl
theorem sz53:szOf Try.prog 44=some 2:=by kernel_rfl
abbrev oArg(a:Arg):AO:=mkO [.sc (.string a.name),.sc (.int .i64 a.index)] 2 44
section
variable {h:AH} {r tk:Nat} {L:List Tok} {en:Int} {rv:AV} {M:Nat->Prop} {R:AE->AH->Prop} {p:Nat}
theorem argument_ok(hM:M r)(hL:L.length<=65536)(hp:p<=L.length)(hD:Digits L)(hT:∀t∈L,t.text.size<=65536)(hr:h.obj r=some (oRd tk L.length p en rv))(ht:h.obj tk=some (oToks L))
  (hR:Outc (argP L en p) (fun x=>∀h',Fr h h' (·=r)->h'.obj r=some (oRd tk L.length x.2 en rv)->R (.ret (.agg x.1.enc)) h') (fun e=>∀h',Fr h h' (·=r)->R (.pan (faultV e)) h')) :
  ACalls Try.prog 77 [.ptr r 0] h M R:=by
 have hrn:=h.lt _ _ hr
 have htn:=h.lt _ _ ht
 apply F77.calls
 unfold argP at hR
 have hf0:=(Fr.refl (h:=h) (S:=(·=r))).alloc (mkO [.sc (.string ⟨#[]⟩),.sc (.int .i64 0)] 2 44)
 have tail:∀(tm:Nat->AV)(h1:AH)(a:Nat)(x:Arg)(q:Nat),tm 2=.ptr h.next 0->tm 3=.ptr a 0->h1.obj a=some (oArg x)->(∃c1 c2,h1.obj h.next=some (mkO [c1,c2] 2 44))->Fr h h1 (·=r)->h1.obj r=some (oRd tk L.length q en rv) ->
   (∀h',Fr h h' (·=r)->h'.obj r=some (oRd tk L.length q en rv)->R (.ret (.agg x.enc)) h')->F77.k1 (fun id=>M id\/h.next<=id) (Ab.bodyQ Try.prog [.cell 2 44] R) (Ab.bodyP R) ⟨tm,[]⟩ h1:=by
  intro tm h1 a x q e2 e3 ha ⟨c1,c2,hq⟩ hf hr1 hR
  simp[e2,e3,ha,hq,ag53,sz53,AH.put_obj]
  exact hR _ (hf.put (.inr (zU _))) (by rw[AH.put_old (nel hrn).1];exact hr1)
 simp only[F77.k8,F77.t8,F77.k7,F77.t7,eAlloc_d]
 refine⟨rfl,?_⟩
 simp only[List.map_cons,List.map_nil,puts,upd,s0]
 simp[-F77.k6]
 refine⟨(·=r),fun _ h _=>h ▸ .inl hM,name_ok rfl hL (p:=p) (L:=L) (tk:=tk) (en:=en) (rv:=rv) (by rw[AH.alloc_old hrn];exact hr) (by rw[AH.alloc_old htn];exact ht) ?_⟩
 cases hn:nameP L en p with
 |error e=>
  rw[hn]at hR
  intro h' h1
  exact⟨rfl,hR _ (hf0.trans (h1.mono fun _ h=>.inl h))⟩
 |ok nm=>
  rw[hn]at hR
  have hlt:p<L.length:=by
   unfold nameP nextP at hn
   cases hg:L[p]? with
   |none=>rw[hg]at hn;cases hn
   |some t=>exact(zM.1 hg).1
  intro h1 f1 r1
  have f1':=hf0.trans (f1.mono fun _ h=>.inl h)
  have q1:=f1.obj (AH.alloc_new _ _) (nel hrn).2.1
  have n1:=f1.next
  simp only[AH.alloc_next]at n1
  have t1:=f1'.obj ht (obj_ne ht hr (show(126:Nat)≠105 by decide))
  simp[-F77.k6,AH.alloc_obj]
  have f2:=(f1'.alloc (mkO [.sc (.string ⟨#[]⟩),.sc (.int .i64 0)] 2 44)).put (id:=h1.next) (off:=0) (cs:=[.sc (.string nm),.sc (.int .i64 (-1))]) (.inr (by omega))
  have r2:((h1.alloc (mkO [.sc (.string ⟨#[]⟩),.sc (.int .i64 0)] 2 44)).put h1.next 0 [.sc (.string nm),.sc (.int .i64 (-1))]).obj r=some (oRd tk L.length (p+1:Nat) en rv):=by
   have:=h1.lt _ _ r1
   simp[AH.put_obj,AH.alloc_obj,nel this,r1]
  have a2:((h1.alloc (mkO [.sc (.string ⟨#[]⟩),.sc (.int .i64 0)] 2 44)).put h1.next 0 [.sc (.string nm),.sc (.int .i64 (-1))]).obj h1.next=some (oArg ⟨nm,-1⟩):=by simp[AH.put_obj,AH.alloc_obj]
  have q2:((h1.alloc (mkO [.sc (.string ⟨#[]⟩),.sc (.int .i64 0)] 2 44)).put h1.next 0 [.sc (.string nm),.sc (.int .i64 (-1))]).obj h.next=some (mkO [.sc (.string ⟨#[]⟩),.sc (.int .i64 0)] 2 44):=by
   have:h.next<h1.next:=by omega
   simp[AH.put_obj,AH.alloc_obj,nel this,q1]
  have t2:=f2.obj ht (obj_ne ht hr (show(126:Nat)≠105 by decide))
  have an:h.next<h1.next:=by omega
  generalize (h1.alloc (mkO [.sc (.string ⟨#[]⟩),.sc (.int .i64 0)] 2 44)).put h1.next 0 [.sc (.string nm),.sc (.int .i64 (-1))]=h2 at *
  generalize h1.next=a at *
  have an2:=h2.lt _ _ a2
  refine⟨.inr (by omega),?_⟩
  simp only[F77.k6,F77.t6,puts,upd]
  simp[-F77.k5]
  refine⟨fun _=>False,fun _ h=>h.elim,peek_ok r2 t2 ?_⟩
  cases hsg:isSignP L (p+1) sIxO with
  |false=>
   simp only[hsg,zE,if_false]at hR
   simp[-F77.k1]
   exact tail _ _ a ⟨nm,-1⟩ _ (by simp) (by simp) a2 ⟨_,_,q2⟩ f2 r2 hR
  |true=>
   simp only[hsg,zV]at hR
   have hlt1:p+1<L.length:=by
    unfold isSignP at hsg
    cases hg:L[p+1]? with
    |none=>rw[hg]at hsg;cases hsg
    |some t=>exact(zM.1 hg).1
   have hw:IntKind.i64.wrap ((p:Int)+1+1)=((p+2:Nat):Int):=by rw[wrap_in (by omega) (by omega)];omega
   simp[-F77.k3,r2,hM,hw]
   have f3:=f2.put (id:=r) (off:=1) (cs:=[.sc (.int .i64 ((p:Int)+2))]) (.inl rfl)
   have r3:(h2.put r 1 [.sc (.int .i64 ((p:Int)+2))]).obj r=some (oRd tk L.length (p+2:Nat) en rv):=by simp[AH.put_obj,r2]
   have a3:(h2.put r 1 [.sc (.int .i64 ((p:Int)+2))]).obj a=some (oArg ⟨nm,-1⟩):=by rw[AH.put_old (by omega)];exact a2
   have q3:(h2.put r 1 [.sc (.int .i64 ((p:Int)+2))]).obj h.next=some (mkO [.sc (.string ⟨#[]⟩),.sc (.int .i64 0)] 2 44):=by rw[AH.put_old (by omega)];exact q2
   have t3:=f3.obj ht (obj_ne ht hr (show(126:Nat)≠105 by decide))
   generalize h2.put r 1 [.sc (.int .i64 ((p:Int)+2))]=h3 at *
   have an3:=h3.lt _ _ a3
   simp only[F77.k3,F77.t3,puts,upd]
   simp[-F77.k2]
   refine⟨(·=r),fun _ h _=>h ▸ .inl hM,number_ok rfl hL hD hT r3 t3 ?_⟩
   cases hnu:numberP L en (p+2) with
   |error e=>
    rw[hnu]at hR
    intro h' h1
    exact⟨rfl,hR _ (f3.trans (h1.mono fun _ h=>.inl h))⟩
   |ok n=>
    rw[hnu]at hR
    intro h4 f4 r4
    have a4:=f4.obj a3 (by omega)
    have q4:=f4.obj q3 (by omega)
    have f4':=f3.trans (f4.mono fun _ h=>.inl h)
    simp[-F77.k2,a4]
    have f5:=f4'.put (id:=a) (off:=1) (cs:=[.sc (.int .i64 n)]) (.inr (by omega))
    have r5:(h4.put a 1 [.sc (.int .i64 n)]).obj r=some (oRd tk L.length (p+3:Nat) en rv):=by rw[AH.put_old (by omega)];exact r4
    have a5:(h4.put a 1 [.sc (.int .i64 n)]).obj a=some (oArg ⟨nm,n⟩):=by simp[AH.put_obj,a4]
    have q5:(h4.put a 1 [.sc (.int .i64 n)]).obj h.next=some (mkO [.sc (.string ⟨#[]⟩),.sc (.int .i64 0)] 2 44):=by rw[AH.put_old (by omega)];exact q4
    have t5:=f5.obj ht (obj_ne ht hr (show(126:Nat)≠105 by decide))
    have hsl:a<h4.next:=h4.lt _ _ a4
    refine⟨by omega,?_⟩
    generalize h4.put a 1 [.sc (.int .i64 n)]=h5 at *
    simp only[F77.k2,F77.t2,puts,upd]
    simp[-F77.k1]
    refine⟨(·=r),fun _ h _=>h ▸ .inl hM,sign_ok rfl hL r5 t5 ?_⟩
    cases hsi:signP L en (p+3) sIxC with
    |error e=>
     rw[hsi]at hR
     intro h' h1
     exact⟨rfl,hR _ (f5.trans (h1.mono fun _ h=>.inl h))⟩
    |ok t=>
     rw[hsi]at hR
     intro h6 f6 r6
     simp[-F77.k1]
     exact tail _ _ a ⟨nm,n⟩ _ (by simp) (by simp) (f6.obj a5 (by omega)) ⟨_,_,f6.obj q5 (by omega)⟩ (f5.trans (f6.mono fun _ h=>.inl h)) r6 hR
end
end
section
open Go.Ab
def encRA(x:Row×AV):List AV:=[.sc (.string x.1.kind),.sc (.string x.1.name),x.2,.sc (.int .i64 x.1.num),.sc (.int .i64 x.1.rows),.sc (.int .i64 x.1.place)]
theorem encRA_len(x:Row×AV):(encRA x).length=6:=rfl
def RowsAt(h:AH)(x:AV)(rows:List Row):Prop:=∃l:List (Row×AV),SlL encRA 6 42 h x l/\l.map (·.1)=rows/\∀y∈l,SlL Arg.enc 2 44 h y.2 y.1.args
theorem RowsAt.fr{h h':AH}{S:Nat->Prop}{x:AV}{rows:List Row}(hr:RowsAt h x rows)(hf:Fr h h' S)(hx:∀id,x=.sl id 0 rows.length->¬S id)(ha:∀id o,h.obj id=some o->o.ty=44->¬S id):RowsAt h' x rows:=by
 obtain⟨l,h1,h2,h3⟩:=hr
 refine⟨l,h1.of_fr hf (fun id he=>hx id (by rw[he,<-h2];simp)),h2,fun y hy=>?_⟩
 rcases h3 y hy with h4 |⟨id,h4,ho⟩
 ·exact .inl h4
 ·exact .inr ⟨id,h4,hf.obj ho (ha id _ ho rfl)⟩
theorem RowsAt.nil{h:AH}:RowsAt h nilS []:=⟨[],.nil,rfl,by simp⟩
structure RS (h:AH) (r tk:Nat) (L:List Tok) (en:Int) (p:Nat) (rv:AV) (rows:List Row):Prop where
 r:h.obj r=some (oRd tk L.length p en rv)
 t:h.obj tk=some (oToks L)
 rows:RowsAt h rv rows
theorem RowsAt.id{h:AH}{x:AV}{rows:List Row}(hr:RowsAt h x rows){id off n:Nat}(hx:x=.sl id off n):off=0/\n=rows.length/\∃o,h.obj id=some o/\o.ty=42:=by
 obtain⟨l,h1,h2,h3⟩:=hr
 rcases h1 with⟨h4,_⟩ |⟨id',h4,ho⟩
 ·rw[h4]at hx;cases hx
 ·rw[h4]at hx;cases hx;exact⟨rfl,by rw[<-h2];simp,_,ho,rfl⟩
theorem RS.step{h h':AH}{r tk:Nat}{L:List Tok}{en:Int}{p p':Nat}{rv:AV}{rows:List Row}(hs:RS h r tk L en p rv rows)(hf:Fr h h' (·=r))(hr:h'.obj r=some (oRd tk L.length p' en rv)):RS h' r tk L en p' rv rows:=by
 refine⟨hr,hf.obj hs.t (obj_ne hs.t hs.r (show(126:Nat)≠105 by decide)),hs.rows.fr hf (fun id he hid=>?_) (fun id o ho hty hid=>?_)⟩
 ·obtain⟨_,_,o,ho,hty⟩:=hs.rows.id he
  exact obj_ne ho hs.r (by rw[hty];show(42:Nat)≠105;decide) hid
 ·exact obj_ne ho hs.r (by rw[hty];show(44:Nat)≠105;decide) hid
theorem RS.still{h h':AH}{r tk:Nat}{L:List Tok}{en:Int}{p:Nat}{rv:AV}{rows:List Row}(hs:RS h r tk L en p rv rows){v:Nat}(hf:Fr h h' (·=v))(hv:v≠r)(hrv:∀id,rv=.sl id 0 rows.length->id≠v)(hty:∀o,h.obj v=some o->o.ty≠126/\o.ty≠44):RS h' r tk L en p rv rows:=by
 refine⟨hf.obj hs.r (Ne.symm hv),hf.obj hs.t (fun e=>(hty _ (e ▸ hs.t)).1 rfl),hs.rows.fr hf hrv (fun id o ho ht hid=>?_)⟩
 subst hid
 exact(hty _ ho).2 ht
def SS(r:Nat)(rv:AV)(id:Nat):Prop:=id=r\/∃n,rv=.sl id 0 n
theorem RS.hrv{h:AH}{r tk:Nat}{L:List Tok}{en:Int}{p:Nat}{rv:AV}{rows:List Row}(hs:RS h r tk L en p rv rows):∀{id off n},rv=.sl id off n->off=0/\n=rows.length/\id<h.next:=by
 intro id off n he
 obtain⟨a,b,o,ho,_⟩:=hs.rows.id he
 exact⟨a,b,h.lt _ _ ho⟩
theorem RowsAt.len{h:AH}{x:AV}{rows:List Row}(hr:RowsAt h x rows):(strArg x=false)/\∀K,pLen x K=K (.sc (.int .i64 rows.length)):=by
 obtain⟨l,h1,h2,h3⟩:=hr
 have:rows.length=l.length:=by rw[<-h2];simp
 rw[this]
 exact⟨(h1.len (K:=fun _=>True)).1,fun K=>(h1.len (K:=K)).2⟩
def StR(h:AH)(r tk:Nat)(L:List Tok)(en:Int)(rv:AV)(rows:List Row)(ret:Nat×List Row->AH->Prop)(pan:AV->AH->Prop)(res:Res (Nat×List Row)):Prop:=
 Outc res (fun x=>∀h' rv',RS h' r tk L en x.1 rv' (rows++x.2)->Fr h h' (SS r rv)->InS (fun id=>SS r rv id\/h.next<=id) rv'->ret x h') (fun e=>∀h',Fr h h' (SS r rv)->pan (faultV e) h')
structure LOK (L:List Tok):Prop where
 len:L.length<=65536
 dig:Digits L
 txt:∀t∈L,t.text.size<=65536
def StmtOK(L:List Tok)(en:Int)(k:Nat):Prop:=∀{h:AH}{r tk:Nat}{rv:AV}{rows:List Row}{M:Nat->Prop}{R:AE->AH->Prop}{p:Nat}{d:Int},d=32-(k:Int)->(∀id,SS r rv id->M id)->RS h r tk L en p rv rows->p<=L.length->rows.length<=p ->
 StR h r tk L en rv rows (fun _ h'=>R (.ret (.tup [])) h') (fun v h'=>R (.pan v) h') (stmtP L en k p)->ACalls Try.prog 46 [.ptr r 0,.sc (.int .i64 d)] h M R
def BodyOK(L:List Tok)(en:Int)(k:Nat):Prop:=∀{h:AH}{r tk:Nat}{rv:AV}{rows:List Row}{M:Nat->Prop}{R:AE->AH->Prop}{p:Nat}{d:Int},d=33-(k:Int)->(∀id,SS r rv id->M id)->RS h r tk L en p rv rows->p<=L.length->rows.length<=p ->
 StR h r tk L en rv rows (fun x h'=>R (.ret (.sc (.int .i64 x.2.length))) h') (fun v h'=>R (.pan v) h') (bdP L en k (stepP L en k) p)->ACalls Try.prog 76 [.ptr r 0,.sc (.int .i64 d)] h M R
theorem fr_trans_rv{h h1 h2:AH}{r:Nat}{rv rv1:AV}(a:Fr h h1 (SS r rv))(hi:InS (fun id=>SS r rv id\/h.next<=id) rv1)(b:Fr h1 h2 (SS r rv1)):Fr h h2 (SS r rv):=
 a.trans (b.mono fun id hs=>by
  rcases hs with hs |⟨n,hn⟩
  ·exact .inl (.inl hs)
  ·exact hi id 0 n hn)
theorem ins_trans_rv{h h1:AH}{r:Nat}{rv rv1 rv2:AV}(hn:h.next<=h1.next)(hi:InS (fun id=>SS r rv id\/h.next<=id) rv1)(hi2:InS (fun id=>SS r rv1 id\/h1.next<=id) rv2)(h2:∀{id off n},rv1=.sl id off n->off=0):InS (fun id=>SS r rv id\/h.next<=id) rv2:=by
 intro id off n he
 rcases hi2 id off n he with(h3 |⟨m,h3⟩) |h3
 ·exact .inl (.inl h3)
 ·exact hi id 0 m h3
 ·exact .inr (zR hn h3)
section
variable {L:List Tok} {en:Int}
theorem body_of{k:Nat}(hL:LOK L)(hs:∀k',k=k'+1->StmtOK L en k'):BodyOK L en k:=by
 intro h r tk rv rows M R p d hd hM hrs hp hrp hR
 have hrn:=h.lt _ _ hrs.r
 have htn:=h.lt _ _ hrs.t
 have hMr:=hM r (.inl rfl)
 have hL0:=hL.len
 apply F76.calls
 unfold bdP at hR
 simp only[F76.k11,F76.t11,F76.k10,F76.t10]
 simp[-F76.k9]
 refine⟨(·=r),fun _ h _=>h ▸ .inl hMr,sign_ok rfl hL.len hrs.r hrs.t ?_⟩
 cases hsi:signP L en p sOpen with
 |error e=>
  rw[hsi]at hR
  intro h' h1
  exact⟨rfl,hR _ (h1.mono fun _ h=>.inl h)⟩
 |ok t=>
  rw[hsi]at hR
  have hlt:=signP_ok hsi
  intro h1 f1 r1
  have rs1:=hrs.step f1 r1
  have n1:=f1.next
  simp[-F76.k9,Tok.enc,AH.alloc_obj]
  refine⟨.inr n1,?_⟩
  have f2:=(((Fr.refl (h:=h1) (S:=(·=h1.next))).alloc (mkO [.sc (.int .i64 0),.sc (.string ⟨#[]⟩),.sc (.int .i64 0)] 3 126))).put (id:=h1.next) (off:=0) (cs:=[.sc (.int .i64 t.kind),.sc (.string t.text),.sc (.int .i64 t.at_)]) (.inl rfl)
  have c2:((h1.alloc (mkO [.sc (.int .i64 0),.sc (.string ⟨#[]⟩),.sc (.int .i64 0)] 3 126)).put h1.next 0 [.sc (.int .i64 t.kind),.sc (.string t.text),.sc (.int .i64 t.at_)]).obj h1.next=some (oTok t):=by simp[AH.put_obj,AH.alloc_obj]
  have none1:∀o,h1.obj h1.next=some o->False:=fun o ho=>by have:=h1.lt _ _ ho;omega
  have rs2:=rs1.still f2 (nel (h1.lt _ _ r1)).2.1 (fun id he=>by have:=rs1.hrv he;omega) (fun o ho=>(none1 o ho).elim)
  have f2':Fr h _ (SS r rv):=(f1.mono fun _ h=>.inl h).trans (f2.mono fun id (hid:id=h1.next)=>.inr (by omega))
  generalize (h1.alloc (mkO [.sc (.int .i64 0),.sc (.string ⟨#[]⟩),.sc (.int .i64 0)] 3 126)).put h1.next 0 [.sc (.int .i64 t.kind),.sc (.string t.text),.sc (.int .i64 t.at_)]=h2 at *
  simp only[F76.k9,F76.t9,puts,upd]
  cases k with
  |zero=>
   have hd':(32:Int)<d:=by omega
   simp[-F76.k7,hd',c2]
   exact hR _ f2'
  |succ k=>
   have hd':¬(32:Int)<d:=by omega
   simp only at hR
   simp[-F76.k6,hd',rs2.r,rs2.rows.len.1,rs2.rows.len.2]
   unfold F76.k6
   have hstep:stepP L en (k+1)=stmtP L en k:=rfl
   rw[hstep]at hR
   generalize hX:loopP L (stmtP L en k) (L.length+1) (p+1) []=X at hR
   refine aLoop_of (ι:=Nat×Nat×List Row) (fun x s' h'=>s'.ds=[]/\s'.tm 0=.ptr r 0/\s'.tm 1=.sc (.int .i64 d)/\s'.tm 6=.sc (.int .i64 rows.length)/\x.2.1<=L.length/\L.length<x.2.1+x.1/\(rows++x.2.2).length<=x.2.1 /\
    loopP L (stmtP L en k) x.1 x.2.1 x.2.2=X /\
    ∃rv',RS h' r tk L en x.2.1 rv' (rows++x.2.2)/\Fr h h' (SS r rv)/\InS (fun id=>SS r rv id\/h.next<=id) rv') (fun x=>x.1) (L.length+1,p+1,[]) ?_ ?_
   ·refine⟨rfl,by simp,by simp,by simp,by simp;omega,by simp;omega,by simp;omega,hX,rv,by simpa using rs2,f2',fun id off n he=>?_⟩
    obtain⟨rfl,_,_⟩:=hrs.hrv he
    exact .inl (.inr ⟨n,he⟩)
   rintro⟨n,q,acc⟩ ⟨tm,ds⟩ h' ⟨rfl,e0,e1,e6,hq,hqn,hlen,hlp,rv',rs',fr',in'⟩
   simp only at e0 e1 e6 hq hqn hlen hlp rs'
   rw[F76.l1]
   cases n with
   |zero=>omega
   |succ n=>
    simp only[loopP]at hlp
    simp only[F76.k5,F76.t5,e0]
    refine⟨fun _=>False,fun _ h=>h.elim,peek_ok rs'.r rs'.t ?_⟩
    cases hsg:isSignP L q sShut with
    |true=>
     simp only[hsg,zV]at hlp
     rw[<-hlp]at hR
     have hw:IntKind.i64.wrap ((q:Int)+1)=(q:Int)+1:=wrap_in (by omega) (by omega)
     have hlen2:=hlen
     rw[List.length_append]at hlen2
     have hwl:IntKind.i64.wrap (((rows++acc).length:Int)-rows.length)=acc.length:=by rw[List.length_append,wrap_in (by omega) (by omega)];omega
     have f3:=(Fr.refl (h:=h') (S:=(·=r))).put (id:=r) (off:=1) (cs:=[.sc (.int .i64 ((q:Int)+1))]) (.inl rfl)
     have rs3:=rs'.step (p':=q+1) f3 (by simp[AH.put_obj,rs'.r])
     have fr3:=fr_trans_rv fr' in' (f3.mono fun _ h=>.inl h)
     simp[-F76.k1,e0,rs'.r,hMr,hw]
     generalize h'.put r 1 [.sc (.int .i64 ((q:Int)+1))]=h3 at *
     simp only[List.length_append,Int.natCast_add]at hwl
     simp[e6,e0,rs3.r,rs3.rows.len.1,rs3.rows.len.2,hwl]
     exact hR _ _ rs3 fr3 in'
    |false=>
     simp only[hsg,zE,if_false]at hlp
     simp only[pUn_not,F76.k4,F76.t4,F76.k3,F76.t3,puts,upd,zT,zV,aIf_b]
     simp only[Nat.reduceEqDiff,if_false,zV,e0,e1,zF,zC,zI,zD]
     refine⟨SS r rv',fun id hid _=>?_,hs k rfl (rv:=rv') (rows:=rows++acc) (p:=q) (by omega) (fun _ h=>h) rs' hq hlen ?_⟩
     ·rcases hid with hid |⟨m,hid⟩
      ·exact hid ▸ .inl hMr
      ·rcases in' id 0 m hid with h4 |h4
       ·exact .inl (hM _ h4)
       ·exact .inr h4
     cases hst:stmtP L en k q with
     |error e=>
      rw[hst]at hlp
      rw[<-hlp]at hR
      intro h4 f4
      exact⟨rfl,hR _ (fr_trans_rv fr' in' f4)⟩
     |ok x=>
      obtain⟨q2,new⟩:=x
      rw[hst]at hlp
      simp only at hlp
      obtain⟨b1,b2,b3⟩:=stmtP_ok k q q2 new hst
      intro h4 rv4 rs4 f4 in4
      simp only[thenQ]
      refine⟨(n,q2,acc++new),by simp,trivial,by simp[e0],by simp[e1],by simp[e6],b2,by simp;omega,by simp at hlen ⊢;omega,hlp,rv4,by simpa using rs4,fr_trans_rv fr' in' f4,ins_trans_rv fr'.next in' in4 (fun he=>(rs'.hrv he).1)⟩
end
end
section
open Go.Ab
structure SI (h0 h:AH) (r tk:Nat) (L:List Tok) (en:Int) (rv0:AV) (rows0:List Row) (v p:Nat) (rv:AV) (d0:Row) (inner:List Row) (cells:List AV):Prop where
 fr:Fr h0 h (SS r rv0)
 rs:RS h r tk L en p rv (rows0++d0::inner)
 ins:InS (fun id=>h0.next<=id/\id≠v) rv
 vo:h.obj v=some (mkO cells 6 42)
 vn:h0.next<=v
 rn:r<h0.next
section
variable {h0 h h':AH} {r tk:Nat} {L:List Tok} {en:Int} {rv0:AV} {rows0:List Row} {v p:Nat} {rv:AV} {d0:Row} {inner:List Row} {cells:List AV}
theorem SI.vr(s:SI h0 h r tk L en rv0 rows0 v p rv d0 inner cells):v≠r:=by have:=s.vn;have:=s.rn;omega
theorem SI.call(s:SI h0 h r tk L en rv0 rows0 v p rv d0 inner cells){p':Nat}(hf:Fr h h' (·=r))(hr:h'.obj r=some (oRd tk L.length p' en rv)):SI h0 h' r tk L en rv0 rows0 v p' rv d0 inner cells:=
 ⟨s.fr.trans (hf.mono fun _ h=>.inl (.inl h)),s.rs.step hf hr,s.ins,hf.obj s.vo s.vr,s.vn,s.rn⟩
theorem SI.quiet(s:SI h0 h r tk L en rv0 rows0 v p rv d0 inner cells)(hf:Fr h h' (fun _=>False)):SI h0 h' r tk L en rv0 rows0 v p rv d0 inner cells:=
 s.call (hf.mono fun _ h=>h.elim) (hf.obj s.rs.r fun h=>h)
theorem SI.set(s:SI h0 h r tk L en rv0 rows0 v p rv d0 inner cells)(off:Nat)(cs:List AV):SI h0 (h.put v off cs) r tk L en rv0 rows0 v p rv d0 inner (putCells cells off cs):=by
 have f:Fr h (h.put v off cs) (·=v):=Fr.refl.put (.inl rfl)
 refine⟨s.fr.trans (f.mono fun id (hid:id=v)=>.inr (hid ▸ s.vn)),s.rs.still f s.vr (fun id he=>(s.ins id 0 _ he).2) ?_,s.ins,put_row s.vo,s.vn,s.rn⟩
 intro o ho
 rw[s.vo]at ho;cases ho
 exact⟨show(42:Nat)≠126 by decide,show(42:Nat)≠44 by decide⟩
theorem SI.body(s:SI h0 h r tk L en rv0 rows0 v p rv d0 inner cells){p':Nat}{rv':AV}{new:List Row}(hrs:RS h' r tk L en p' rv' ((rows0++d0::inner)++new))(hf:Fr h h' (SS r rv))(hi:InS (fun id=>SS r rv id\/h.next<=id) rv') :
  SI h0 h' r tk L en rv0 rows0 v p' rv' d0 (inner++new) cells:=by
 have hv:¬SS r rv v:=by
  rintro(h1 |⟨n,h1⟩)
  ·exact s.vr h1
  ·exact(s.ins v 0 n h1).2 rfl
 have hvn:=h.lt _ _ s.vo
 refine⟨s.fr.trans (hf.mono fun id hid=>?_),by simpa using hrs,fun id off n he=>?_,hf.obj s.vo hv,s.vn,s.rn⟩
 ·rcases hid with h1 |⟨n,h1⟩
  ·exact .inl (.inl h1)
  ·exact .inr (s.ins id 0 n h1).1
 ·have h0:=(hrs.hrv he).1
  rcases hi id off n he with(h1 |⟨m,h1⟩) |h1
  ·obtain⟨_,_,o,ho,hty⟩:=hrs.rows.id he
   exact(obj_ne ho hrs.r (by rw[hty];show(42:Nat)≠105;decide) h1).elim
  ·exact s.ins id 0 m h1
  ·exact⟨zR s.vn (by omega),by omega⟩
theorem args_keep{a:AV}{l:List Arg}(ha:SlL Arg.enc 2 44 h a l){S:Nat->Prop}(hf:Fr h h' S)(hS:∀id o,h.obj id=some o->o.ty=44->¬S id):SlL Arg.enc 2 44 h' a l:=by
 rcases ha with h1 |⟨id,h1,ho⟩
 ·exact .inl h1
 ·exact .inr ⟨id,h1,hf.obj ho (hS id _ ho rfl)⟩
theorem SI.a_call(s:SI h0 h r tk L en rv0 rows0 v p rv d0 inner cells):∀id o,h.obj id=some o->o.ty=44->¬id=r:=fun id o ho ht=>obj_ne ho s.rs.r (by rw[ht];show(44:Nat)≠105;decide)
theorem SI.a_set(s:SI h0 h r tk L en rv0 rows0 v p rv d0 inner cells):∀id o,h.obj id=some o->o.ty=44->¬id=v:=fun id o ho ht=>obj_ne ho s.vo (by rw[ht];show(44:Nat)≠42;decide)
theorem SI.a_body(s:SI h0 h r tk L en rv0 rows0 v p rv d0 inner cells):∀id o,h.obj id=some o->o.ty=44->¬SS r rv id:=by
 rintro id o ho ht (h1 |⟨n,h1⟩)
 ·exact s.a_call id o ho ht h1
 ·obtain⟨_,_,o',ho',hty⟩:=s.rs.rows.id h1
  exact obj_ne ho ho' (by rw[ht,hty];show(44:Nat)≠42;decide) rfl
end
section
variable {h0 h:AH} {r tk:Nat} {L:List Tok} {en:Int} {rv0:AV} {rows0:List Row} {v p:Nat} {rv:AV} {d0:Row} {inner:List Row} {M:Nat->Prop} {R:AE->AH->Prop} {tm:Nat->AV} {a:AV} {row:Row}
def Fin(h0:AH)(r tk:Nat)(L:List Tok)(en:Int)(rv0:AV)(rows0:List Row)(R:AE->AH->Prop)(res:Res (Nat×List Row)):Prop:=StR h0 r tk L en rv0 rows0 (fun _ h'=>R (.ret (.tup [])) h') (fun v h'=>R (.pan v) h') res
theorem F46_end(s:SI h0 h r tk L en rv0 rows0 v p rv d0 inner (encRA (row,a)))(ha:SlL Arg.enc 2 44 h a row.args)(e0:tm 0=.ptr r 0)(e5:tm 5=.ptr v 0)(e6:tm 6=.sc (.int .i64 rows0.length))
  (hR:Fin h0 r tk L en rv0 rows0 R (.ok (p,row::inner))):F46.k1 (fun id=>M id\/h0.next<=id) (Ab.bodyQ Try.prog [] R) (Ab.bodyP R) ⟨tm,[]⟩ h:=by
 obtain⟨l,h1,h2,h3⟩:=s.rs.rows
 rcases h1 with⟨_,h1⟩ |⟨id,hid,ho⟩
 ·subst h1;simp at h2
 obtain⟨A,l2,rfl,hA,hl2⟩:=List.map_eq_append_iff.1 h2
 obtain⟨x,B,rfl,hx,hB⟩:=List.map_eq_cons_iff.1 hl2
 have hAl:A.length=rows0.length:=by rw[<-hA];simp
 obtain⟨i1,i2⟩:=s.ins id 0 _ hid
 have hidr:id≠r:=by have:=s.rn;omega
 have hput:=putCells_flat encRA_len A B x (row,a)
 have hlt:(rows0.length:Int)<((A++x::B).length:Nat):=by simp;omega
 have hbig:rows0.length*6+6<=((A++x::B).flatMap encRA).length:=by rw[flat_len encRA_len];simp;omega
 rw[hAl]at hput
 have f1:Fr h (h.put id (rows0.length*6) (encRA (row,a))) (·=id):=Fr.refl.put (.inl rfl)
 have o1:(h.put id (rows0.length*6) (encRA (row,a))).obj id=some (mkO ((A++(row,a)::B).flatMap encRA) 6 42):=by rw[put_row ho,hput]
 have rs1:RS (h.put id (rows0.length*6) (encRA (row,a))) r tk L en p rv (rows0++row::inner):=by
  have ak:∀id' o,h.obj id'=some o->o.ty=44->¬id'=id:=fun id' o ho' ht=>obj_ne ho' ho (by rw[ht];show(44:Nat)≠42;decide)
  refine⟨f1.obj s.rs.r (Ne.symm hidr),f1.obj s.rs.t (obj_ne s.rs.t ho (show(126:Nat)≠42 by decide)),A++(row,a)::B,.inr ⟨id,by rw[hid];simp,o1⟩,by simp[hA,hB],fun y hy=>?_⟩
  rcases List.mem_append.1 hy with hy |hy
  ·exact args_keep (h3 y (by simp[hy])) f1 ak
  ·rcases List.mem_cons.1 hy with hy |hy
   ·subst hy;exact args_keep ha f1 ak
   ·exact args_keep (h3 y (by simp[hy])) f1 ak
 have hres:=hR _ _ rs1 (s.fr.trans (f1.mono fun i (hi:i=id)=>.inr (hi ▸ i1))) (fun i off n he=>.inr (s.ins i off n he).1)
 have hv:=s.vo
 have hr:=s.rs.r
 simp only[F46.k1,F46.t1,e0,e5,e6,pNil_ptr,pFld_ptr,lLd_f,lLdn_f,hr,hv,ldk_mk,ldnk_mk]
 simp only[zG,zB,zA,cellK_some,hid,pIxA_sl,eStore_f,ho,stk_mk,avC_agg]
 have hen:(encRA (row,a)).length=6:=rfl
 refine⟨by simp[hen],⟨by omega,hlt⟩,?_⟩
 rw[show List.drop 0 (encRA (row,a))=encRA (row,a) from rfl,List.take_of_length_le (by simp[hen])]
 rw[zY]
 exact⟨⟨.inr i1,by rcases ha with⟨rfl,_⟩ |⟨id',rfl,_⟩<;>rfl,rfl,hbig⟩,rfl,hres⟩
theorem hp_le(s:SI h0 h r tk L en rv0 rows0 v p rv d0 inner (encRA (row,a)))(hM:∀id,SS r rv0 id->M id):∀id,SS r rv id->M id\/h0.next<=id:=by
 rintro id (h1 |⟨n,h1⟩)
 ·exact .inl (hM _ (.inl h1))
 ·exact .inr (s.ins id 0 n h1).1
theorem F46_line(hL:LOK L)(hM:∀id,SS r rv0 id->M id)(s:SI h0 h r tk L en rv0 rows0 v p rv d0 [] (encRA (row,a)))(ha:SlL Arg.enc 2 44 h a row.args){tmf:AV->Nat->AV}(e0:∀t,tmf t 0=.ptr r 0)(e5:∀t,tmf t 5=.ptr v 0)(e6:∀t,tmf t 6=.sc (.int .i64 rows0.length))
  (hR:Fin h0 r tk L en rv0 rows0 R (lineP L en p row)) :
  aCall Try.prog (fun id=>M id\/h0.next<=id) 74 [.ptr r 0,.sc (.string ⟨#[59]⟩)] h (fun t h'=>F46.k1 (fun id=>M id\/h0.next<=id) (Ab.bodyQ Try.prog [] R) (Ab.bodyP R) ⟨tmf t,[]⟩ h') (Ab.bodyP R []):=by
 refine⟨(·=r),fun _ h _=>h ▸ .inl (hM r (.inl rfl)),sign_ok rfl hL.len s.rs.r s.rs.t ?_⟩
 unfold lineP at hR
 cases hs:signP L en p sSemi with
 |error e=>
  rw[hs]at hR
  intro h' h1
  exact⟨rfl,hR _ (s.fr.trans (h1.mono fun _ h=>.inl (.inl h)))⟩
 |ok t=>
  rw[hs]at hR
  intro h' f1 r1
  exact F46_end (s.call f1 r1) (args_keep ha f1 s.a_call) (e0 _) (e5 _) (e6 _) hR
theorem F46_held{k:Nat}{d:Int}(hL:LOK L)(hb:BodyOK L en k)(hd:d=33-(k:Int))(hM:∀id,SS r rv0 id->M id)(s:SI h0 h r tk L en rv0 rows0 v p rv d0 [] (encRA (row,a)))(ha:SlL Arg.enc 2 44 h a row.args)(hp:p<=L.length)(hlen:rows0.length+1<=p)
  {tmf:AV->AV->Nat->AV} (e0:∀t u,tmf t u 0=.ptr r 0) (e5:∀t u,tmf t u 5=.ptr v 0) (e6:∀t u,tmf t u 6=.sc (.int .i64 rows0.length))
  (hR:Fin h0 r tk L en rv0 rows0 R (heldP L en k (stepP L en k) p row)) :
  aCall Try.prog (fun id=>M id\/h0.next<=id) 76 [.ptr r 0,.sc (.int .i64 d)] h (fun t h'=>pFld (some 4) (.ptr v 0) fun u=>eStore (some 1) u t h' (fun id=>M id\/h0.next<=id) fun h''=>F46.k1 (fun id=>M id\/h0.next<=id) (Ab.bodyQ Try.prog [] R) (Ab.bodyP R) ⟨tmf t u,[]⟩ h'') (Ab.bodyP R []):=by
 refine⟨SS r rv,fun id hid _=>hp_le s hM id hid,hb hd (fun _ h=>h) s.rs hp (by simp;omega) ?_⟩
 unfold heldP at hR
 cases hs:bdP L en k (stepP L en k) p with
 |error e=>
  rw[hs]at hR
  intro h' h1
  refine⟨rfl,hR _ (s.fr.trans (h1.mono fun id hid=>?_))⟩
  rcases hid with h2 |⟨n,h2⟩
  ·exact .inl (.inl h2)
  ·exact .inr (s.ins id 0 n h2).1
 |ok x=>
  obtain⟨p',new⟩:=x
  rw[hs]at hR
  intro h' rv' rs' f1 i1
  have s1:=s.body rs' f1 i1
  have a1:=args_keep ha f1 s.a_body
  have s2:=s1.set 4 [.sc (.int .i64 new.length)]
  have a2:=args_keep a1 (Fr.refl.put (h:=h') (S:=(·=v)) (id:=v) (off:=4) (cs:=[.sc (.int .i64 new.length)]) (.inl rfl)) s1.a_set
  show pFld (some 4) (.ptr v 0) _
  simp only[pFld_ptr,eStore_f,s1.vo,avC_int,stk_mk]
  refine⟨⟨.inr s.vn,rfl,rfl,by simp[encRA]⟩,?_⟩
  exact F46_end (row:={ row with rows:=new.length }) s2 a2 (e0 _ _) (e5 _ _) (e6 _ _) hR
end
end
section
open Go.Ab
def RowsA(h:AH)(x:AV)(rows:List Row)(a:AV):Prop:=∃l:List (Row×AV),SlL encRA 6 42 h x l/\l.map (·.1)=rows/\∀y∈l,SlL Arg.enc 2 44 h y.2 y.1.args/\∀id off n off' n',a=.sl id off n->y.2≠.sl id off' n'
theorem RowsA.to{h:AH}{x:AV}{rows:List Row}{a:AV}(hr:RowsA h x rows a):RowsAt h x rows:=let ⟨l,h1,h2,h3⟩:=hr;⟨l,h1,h2,fun y hy=>(h3 y hy).1⟩
theorem RowsA.nil{h:AH}{x:AV}{rows:List Row}(hr:RowsAt h x rows):RowsA h x rows nilS:=let ⟨l,h1,h2,h3⟩:=hr;⟨l,h1,h2,fun y hy=>⟨h3 y hy,fun _ _ _ _ _ he=>by cases he⟩⟩
theorem RowsA.fr{h h':AH}{S:Nat->Prop}{x:AV}{rows:List Row}{a:AV}(hr:RowsA h x rows a)(hf:Fr h h' S)(hx:∀id,x=.sl id 0 rows.length->¬S id)(ha:∀id o,h.obj id=some o->o.ty=44->¬S id):RowsA h' x rows a:=by
 obtain⟨l,h1,h2,h3⟩:=hr
 exact⟨l,h1.of_fr hf (fun id he=>hx id (by rw[he,<-h2];simp)),h2,fun y hy=>⟨args_keep (h3 y hy).1 hf ha,(h3 y hy).2⟩⟩
section
variable {h0 h h':AH} {r tk:Nat} {L:List Tok} {en:Int} {rv0:AV} {rows0:List Row} {v p:Nat} {rv:AV} {d0:Row} {inner:List Row} {cells:List AV} {a y:AV} {acc:List Arg}
theorem RowsA.call(ra:RowsA h rv (rows0++d0::inner) a)(s:SI h0 h r tk L en rv0 rows0 v p rv d0 inner cells)(hf:Fr h h' (·=r)):RowsA h' rv (rows0++d0::inner) a:=
 ra.fr hf (fun id he hid=>by
  obtain⟨_,_,o,ho,hty⟩:=s.rs.rows.id he
  exact obj_ne ho s.rs.r (by rw[hty];show(42:Nat)≠105;decide) hid) s.a_call
theorem RowsA.set(ra:RowsA h rv (rows0++d0::inner) a)(s:SI h0 h r tk L en rv0 rows0 v p rv d0 inner cells)(off:Nat)(cs:List AV):RowsA (h.put v off cs) rv (rows0++d0::inner) a:=
 ra.fr (Fr.refl.put (S:=(·=v)) (.inl rfl)) (fun id he=>(s.ins id 0 _ he).2) s.a_set
theorem SI.app(s:SI h0 h r tk L en rv0 rows0 v p rv d0 inner cells)(ra:RowsA h rv (rows0++d0::inner) a)(ha:SlL Arg.enc 2 44 h a acc)(hown:InS (h0.next<=·) a)(hf:Fr h h' (fun i=>∃off n,a=.sl i off n))(hy:InS (h.next<=·) y) :
  SI h0 h' r tk L en rv0 rows0 v p rv d0 inner cells/\RowsA h' rv (rows0++d0::inner) y:=by
 have aty:∀i,(∃off n,a=.sl i off n)->∃o,h.obj i=some o/\o.ty=44:=by
  rintro i ⟨off,n,he⟩
  rcases ha with⟨h1,_⟩ |⟨id,h1,ho⟩
  ·rw[h1]at he;cases he
  ·rw[h1]at he;cases he;exact⟨_,ho,rfl⟩
 have not:∀i o,h.obj i=some o->o.ty≠44->¬ ∃off n,a=.sl i off n:=fun i o ho hne he=>by
  obtain⟨o',ho',ht⟩:=aty i he
  rw[ho]at ho';cases ho';exact hne ht
 have ra':RowsA h' rv (rows0++d0::inner) y:=by
  obtain⟨l,h1,h2,h3⟩:=ra
  refine⟨l,h1.of_fr hf (fun id he=>?_),h2,fun z hz=>⟨?_,fun id off n off' n' he he'=>?_⟩⟩
  ·rcases h1 with⟨h4,_⟩ |⟨id',h4,ho⟩
   ·rw[h4]at he;cases he
   ·rw[h4]at he;cases he;exact not _ _ ho (show(42:Nat)≠44 by decide)
  ·obtain⟨h4,h5⟩:=h3 z hz
   rcases h4 with h4 |⟨id,h4,ho⟩
   ·exact .inl h4
   ·refine .inr ⟨id,h4,hf.obj ho ?_⟩
    rintro⟨off,n,he⟩
    exact h5 id off n _ _ he h4
  ·have h6:=hy id off n he
   obtain⟨h4,_⟩:=h3 z hz
   rcases h4 with⟨h4,_⟩ |⟨id',h4,ho⟩
   ·rw[h4]at he';cases he'
   ·rw[h4]at he';cases he'
    have:=h.lt _ _ ho
    omega
 refine⟨⟨s.fr.trans (hf.mono fun id hid=>?_),⟨hf.obj s.rs.r (not _ _ s.rs.r (show(105:Nat)≠44 by decide)),hf.obj s.rs.t (not _ _ s.rs.t (show(126:Nat)≠44 by decide)),ra'.to⟩,s.ins,hf.obj s.vo (not _ _ s.vo (show(42:Nat)≠44 by decide)),s.vn,s.rn⟩,ra'⟩
 obtain⟨off,n,he⟩:=hid
 exact .inr (hown id off n he)
end
section
variable {h0 h:AH} {r tk:Nat} {L:List Tok} {en:Int} {rv0:AV} {rows0:List Row} {v p:Nat} {rv:AV} {d0:Row} {inner:List Row} {cells:List AV} {M:Nat->Prop} {R:AE->AH->Prop}
theorem st_name(hL:LOK L)(hM:∀id,SS r rv0 id->M id)(s:SI h0 h r tk L en rv0 rows0 v p rv d0 inner cells)(hc:cells.length=6){C:KT}{tmf:AV->AV->Nat->AV}{off:Nat}(ho:off<6)
  (herr:∀e,nameP L en p=.error e->∀h',Fr h0 h' (SS r rv0)->R (.pan (faultV e)) h')
  (hok:∀nm,nameP L en p=.ok nm->∀u h',SI h0 h' r tk L en rv0 rows0 v (p+1) rv d0 inner (putCells cells off [.sc (.string nm)])->C ⟨tmf (.sc (.string nm)) u,[]⟩ h') :
  aCall Try.prog (fun id=>M id\/h0.next<=id) 72 [.ptr r 0] h (fun t h'=>pFld (some off) (.ptr v 0) fun u=>eStore (some 1) u t h' (fun id=>M id\/h0.next<=id) fun h''=>C ⟨tmf t u,[]⟩ h'') (Ab.bodyP R []):=by
 refine⟨(·=r),fun _ h _=>h ▸ .inl (hM r (.inl rfl)),name_ok rfl hL.len s.rs.r s.rs.t ?_⟩
 cases hs:nameP L en p with
 |error e=>intro h' h1;exact⟨rfl,herr e hs _ (s.fr.trans (h1.mono fun _ h=>.inl (.inl h)))⟩
 |ok nm=>
  intro h' f1 r1
  have s1:=s.call f1 r1
  have s2:=s1.set off [.sc (.string nm)]
  show pFld (some off) (.ptr v 0) _
  simp only[pFld_ptr,eStore_f,s1.vo,avC_str,stk_mk,zG]
  exact⟨⟨.inr s.vn,rfl,rfl,by omega⟩,hok nm hs _ _ s2⟩
theorem st_number(hL:LOK L)(hM:∀id,SS r rv0 id->M id)(s:SI h0 h r tk L en rv0 rows0 v p rv d0 inner cells)(hc:cells.length=6){C:KT}{tmf:AV->AV->Nat->AV}{off:Nat}(ho:off<6)
  (herr:∀e,numberP L en p=.error e->∀h',Fr h0 h' (SS r rv0)->R (.pan (faultV e)) h')
  (hok:∀nm,numberP L en p=.ok nm->∀u h',SI h0 h' r tk L en rv0 rows0 v (p+1) rv d0 inner (putCells cells off [.sc (.int .i64 nm)])->C ⟨tmf (.sc (.int .i64 nm)) u,[]⟩ h') :
  aCall Try.prog (fun id=>M id\/h0.next<=id) 73 [.ptr r 0] h (fun t h'=>pFld (some off) (.ptr v 0) fun u=>eStore (some 1) u t h' (fun id=>M id\/h0.next<=id) fun h''=>C ⟨tmf t u,[]⟩ h'') (Ab.bodyP R []):=by
 refine⟨(·=r),fun _ h _=>h ▸ .inl (hM r (.inl rfl)),number_ok rfl hL.len hL.dig hL.txt s.rs.r s.rs.t ?_⟩
 cases hs:numberP L en p with
 |error e=>intro h' h1;exact⟨rfl,herr e hs _ (s.fr.trans (h1.mono fun _ h=>.inl (.inl h)))⟩
 |ok nm=>
  intro h' f1 r1
  have s1:=s.call f1 r1
  have s2:=s1.set off [.sc (.int .i64 nm)]
  show pFld (some off) (.ptr v 0) _
  simp only[pFld_ptr,eStore_f,s1.vo,avC_int,stk_mk,zG]
  exact⟨⟨.inr s.vn,rfl,rfl,by omega⟩,hok nm hs _ _ s2⟩
end
end
section
open Go.Ab
section
variable {h0 h:AH} {r tk:Nat} {L:List Tok} {en:Int} {rv0:AV} {rows0:List Row} {v p:Nat} {rv:AV} {d0:Row} {M:Nat->Prop} {R:AE->AH->Prop} {tm:Nat->AV}
structure TM (tm:Nat->AV) (r v:Nat) (d:Int) (n:Nat):Prop where
 e0:tm 0=.ptr r 0
 e1:tm 1=.sc (.int .i64 d)
 e5:tm 5=.ptr v 0
 e6:tm 6=.sc (.int .i64 n)
theorem TM.puts{tm:Nat->AV}{r v:Nat}{d:Int}{n:Nat}(t:TM tm r v d n):∀(l:List (Nat×AV)),(∀x∈l,6<x.1)->TM (puts tm l) r v d n
 |[],_=>t
 |x::l,h=>by
  have hx:=h x (by simp)
  exact TM.puts (tm:=Go.Ab.upd tm x.1 x.2) ⟨by rw[upd_ne (by omega)];exact t.e0,by rw[upd_ne (by omega)];exact t.e1,by rw[upd_ne (by omega)];exact t.e5,by rw[upd_ne (by omega)];exact t.e6⟩ l (fun y hy=>h y (by simp[hy]))
theorem F46_regs{d:Int}(hL:LOK L)(hM:∀id,SS r rv0 id->M id){k:ByteArray}{pl:Int}(s:SI h0 h r tk L en rv0 rows0 v p rv d0 [] (encRA (⟨k,sEmpty,[],0,0,pl⟩,nilS)))(tm_:TM tm r v d rows0.length)
  (hR:Fin h0 r tk L en rv0 rows0 R (match nameP L en p with |.error e=>.error e |.ok nm=>match numberP L en (p+1) with |.error e=>.error e |.ok n=>lineP L en (p+2) ⟨k,nm,[],n,0,pl⟩)) :
  F46.k4 (fun id=>M id\/h0.next<=id) (Ab.bodyQ Try.prog [] R) (Ab.bodyP R) ⟨tm,[]⟩ h:=by
 simp only[F46.k4,F46.t4,tm_.e0,tm_.e5]
 refine st_name hL hM s rfl (tmf:=fun t u=>puts tm [(73,.ptr r 0),(74,t),(75,u)]) (by decide) (fun e he=>?_) (fun nm hn u h1 s1=>?_)
 ·rw[he]at hR;exact hR
 rw[hn]at hR
 have t1:=tm_.puts [(73,.ptr r 0),(74,.sc (.string nm)),(75,u)] (by simp)
 generalize puts tm [(73,.ptr r 0),(74,.sc (.string nm)),(75,u)]=tm1 at *
 simp only[F46.k3,F46.t3,t1.e0,t1.e5]
 refine st_number hL hM s1 rfl (tmf:=fun t u=>puts tm1 [(76,.ptr r 0),(77,t),(78,u)]) (by decide) (fun e he=>?_) (fun n hn u h2 s2=>?_)
 ·rw[he]at hR;exact hR
 rw[hn]at hR
 have t2:=t1.puts [(76,.ptr r 0),(77,.sc (.int .i64 n)),(78,u)] (by simp)
 generalize puts tm1 [(76,.ptr r 0),(77,.sc (.int .i64 n)),(78,u)]=tm2 at *
 simp only[F46.k2,F46.t2,t2.e0]
 have t3:=fun t=>t2.puts [(79,.ptr r 0),(80,t)] (by simp)
 exact F46_line (row:=⟨k,nm,[],n,0,pl⟩) (a:=nilS) hL hM s2 .nil (fun t=>(t3 t).e0) (fun t=>(t3 t).e5) (fun t=>(t3 t).e6) hR
theorem F46_rep{d:Int}{kk:Nat}(hL:LOK L)(hb:BodyOK L en kk)(hd:d=32-(kk:Int))(hkk:kk<=32)(hlen:rows0.length+1<=p)(hM:∀id,SS r rv0 id->M id){k:ByteArray}{pl:Int}(s:SI h0 h r tk L en rv0 rows0 v p rv d0 [] (encRA (⟨k,sEmpty,[],0,0,pl⟩,nilS)))(tm_:TM tm r v d rows0.length)
  (hR:Fin h0 r tk L en rv0 rows0 R (match numberP L en p with |.error e=>.error e |.ok n=>heldP L en kk (stepP L en kk) (p+1) ⟨k,sEmpty,[],n,0,pl⟩)) :
  F46.k12 (fun id=>M id\/h0.next<=id) (Ab.bodyQ Try.prog [] R) (Ab.bodyP R) ⟨tm,[]⟩ h:=by
 simp only[F46.k12,F46.t12,tm_.e0,tm_.e5]
 refine st_number hL hM s rfl (tmf:=fun t u=>puts tm [(103,.ptr r 0),(104,t),(105,u)]) (by decide) (fun e he=>?_) (fun n hn u h2 s2=>?_)
 ·rw[he]at hR;exact hR
 rw[hn]at hR
 have hlt:=numberP_ok hn
 have t2:=tm_.puts [(103,.ptr r 0),(104,.sc (.int .i64 n)),(105,u)] (by simp)
 generalize puts tm [(103,.ptr r 0),(104,.sc (.int .i64 n)),(105,u)]=tm2 at *
 have hw:IntKind.i64.wrap (d+1)=d+1:=wrap_in (by omega) (by omega)
 simp only[F46.k11,F46.t11,t2.e0,t2.e1,t2.e5,pBin_add,hw]
 have t3:=fun t u=>t2.puts [(106,.ptr r 0),(107,.sc (.int .i64 d)),(108,.sc (.int .i64 (d+1))),(109,t),(110,u)] (by simp)
 exact F46_held (row:=⟨k,sEmpty,[],n,0,pl⟩) (a:=nilS) hL hb (by omega) hM s2 .nil (by omega) (by omega) (fun t u=>(t3 t u).e0) (fun t u=>(t3 t u).e5) (fun t u=>(t3 t u).e6) hR
theorem F46_if{d:Int}{kk:Nat}(hL:LOK L)(hb:BodyOK L en kk)(hd:d=32-(kk:Int))(hkk:kk<=32)(hlen:rows0.length+1<=p)(hM:∀id,SS r rv0 id->M id){k:ByteArray}{pl:Int}(s:SI h0 h r tk L en rv0 rows0 v p rv d0 [] (encRA (⟨k,sEmpty,[],0,0,pl⟩,nilS)))(tm_:TM tm r v d rows0.length)
  (hR:Fin h0 r tk L en rv0 rows0 R (match nameP L en p with |.error e=>.error e |.ok nm=>match numberP L en (p+1) with |.error e=>.error e |.ok n=>heldP L en kk (stepP L en kk) (p+2) ⟨k,nm,[],n,0,pl⟩)) :
  F46.k15 (fun id=>M id\/h0.next<=id) (Ab.bodyQ Try.prog [] R) (Ab.bodyP R) ⟨tm,[]⟩ h:=by
 simp only[F46.k15,F46.t15,tm_.e0,tm_.e5]
 refine st_name hL hM s rfl (tmf:=fun t u=>puts tm [(113,.ptr r 0),(114,t),(115,u)]) (by decide) (fun e he=>?_) (fun nm hn u h1 s1=>?_)
 ·rw[he]at hR;exact hR
 rw[hn]at hR
 have t1:=tm_.puts [(113,.ptr r 0),(114,.sc (.string nm)),(115,u)] (by simp)
 generalize puts tm [(113,.ptr r 0),(114,.sc (.string nm)),(115,u)]=tm1 at *
 simp only[F46.k14,F46.t14,t1.e0,t1.e5]
 refine st_number hL hM s1 rfl (tmf:=fun t u=>puts tm1 [(116,.ptr r 0),(117,t),(118,u)]) (by decide) (fun e he=>?_) (fun n hn u h2 s2=>?_)
 ·rw[he]at hR;exact hR
 rw[hn]at hR
 have hlt:=numberP_ok hn
 have t2:=t1.puts [(116,.ptr r 0),(117,.sc (.int .i64 n)),(118,u)] (by simp)
 generalize puts tm1 [(116,.ptr r 0),(117,.sc (.int .i64 n)),(118,u)]=tm2 at *
 have hw:IntKind.i64.wrap (d+1)=d+1:=wrap_in (by omega) (by omega)
 simp only[F46.k13,F46.t13,t2.e0,t2.e1,t2.e5,pBin_add,hw]
 have t3:=fun t u=>t2.puts [(119,.ptr r 0),(120,.sc (.int .i64 d)),(121,.sc (.int .i64 (d+1))),(122,t),(123,u)] (by simp)
 exact F46_held (row:=⟨k,nm,[],n,0,pl⟩) (a:=nilS) hL hb (by omega) hM s2 .nil (by omega) (by omega) (fun t u=>(t3 t u).e0) (fun t u=>(t3 t u).e5) (fun t u=>(t3 t u).e6) hR
end
end
section
open Go.Ab
section
variable {h0 h:AH} {r tk:Nat} {L:List Tok} {en:Int} {rv0:AV} {rows0:List Row} {v p:Nat} {rv:AV} {d0:Row} {M:Nat->Prop} {R:AE->AH->Prop} {tm:Nat->AV}
theorem st_push{inner:List Row}{k nm:ByteArray}{acc:List Arg}{pl:Int}{a:AV}{x:Arg}{W:Nat->Prop}{K:AV->AV->AH->Prop}(hW:∀id,h0.next<=id->W id)(s:SI h0 h r tk L en rv0 rows0 v p rv d0 inner (encRA (⟨k,nm,acc,0,0,pl⟩,a)))
  (ra:RowsA h rv (rows0++d0::inner) a) (ha:SlL Arg.enc 2 44 h a acc) (hown:InS (h0.next<=·) a) (hn:acc.length<=65536)
  (hK:∀v1 y h',SI h0 h' r tk L en rv0 rows0 v p rv d0 inner (encRA (⟨k,nm,acc++[x],0,0,pl⟩,y))->RowsA h' rv (rows0++d0::inner) y->SlL Arg.enc 2 44 h' y (acc++[x])->InS (h0.next<=·) y->K v1 y h') :
  eBSl (some (2,44,[.string ⟨#[]⟩,.int .i64 0])) 1 [(0,.agg x.enc)] h fun v1 h4=>eApp (some (2,24,44)) a v1 h4 W fun y h5=>eStore (some 1) (.ptr v 2) y h5 W fun h6=>K v1 y h6:=by
 refine app1' (f:=Arg.enc) (K:=fun v1 y h5=>eStore (some 1) (.ptr v 2) y h5 W fun h6=>K v1 y h6) Arg.enc_len (by decide) rfl Arg.enc_one (by decide) ha (fun id off n he=>hW _ (hown id off n he)) (by omega) ?_
 intro v1 y h5 hy iy f5
 obtain⟨s5,ra5⟩:=s.app ra ha hown f5 iy
 obtain⟨id,hid⟩:=hy.sl (by simp)
 have iy':InS (h0.next<=·) y:=fun i off n he=>zR (zR s.vn (by have:=h.lt _ _ s.vo;omega)) (iy i off n he)
 have s6:=s5.set 2 [y]
 have ra6:=ra5.set s5 2 [y]
 have hy6:=args_keep hy (Fr.refl.put (h:=h5) (S:=(·=v)) (id:=v) (off:=2) (cs:=[y]) (.inl rfl)) s5.a_set
 subst hid
 simp only[eStore_f,s5.vo,avC_sl,stk_mk]
 exact⟨⟨hW _ s.vn,rfl,rfl,by simp[encRA]⟩,hK _ _ _ s6 ra6 hy6 iy'⟩
theorem F46_gate{d:Int}{kk:Nat}(hL:LOK L)(hb:BodyOK L en kk)(hd:d=32-(kk:Int))(hkk:kk<=32)(hlen:rows0.length+1<=p)(hM:∀id,SS r rv0 id->M id){k:ByteArray}{pl:Int}(s:SI h0 h r tk L en rv0 rows0 v p rv d0 [] (encRA (⟨k,sEmpty,[],0,0,pl⟩,nilS)))(tm_:TM tm r v d rows0.length)
  (hR:Fin h0 r tk L en rv0 rows0 R (match nameP L en p with |.error e=>.error e |.ok nm=>match namesP L en (L.length+1) (p+1) [] with |.error e=>.error e |.ok (l,p')=>heldP L en kk (stepP L en kk) p' ⟨k,nm,l,0,0,pl⟩)) :
  F46.k10 (fun id=>M id\/h0.next<=id) (Ab.bodyQ Try.prog [] R) (Ab.bodyP R) ⟨tm,[]⟩ h:=by
 simp only[F46.k10,F46.t10,tm_.e0,tm_.e5]
 refine st_name hL hM s rfl (tmf:=fun t u=>puts tm [(83,.ptr r 0),(84,t),(85,u)]) (by decide) (fun e he=>?_) (fun nm hn u h1 s1=>?_)
 ·rw[he]at hR;exact hR
 rw[hn]at hR
 have hlt:=(nameP_ok hn).1
 have t1:=tm_.puts [(83,.ptr r 0),(84,.sc (.string nm)),(85,u)] (by simp)
 generalize puts tm [(83,.ptr r 0),(84,.sc (.string nm)),(85,u)]=tm1 at *
 unfold F46.k9
 simp only at hR
 generalize hX:namesP L en (L.length+1) (p+1) []=X at hR
 have hL0:=hL.len
 refine aLoop_of (ι:=Nat×Nat×List Arg) (fun x s' h'=>s'.ds=[]/\TM s'.tm r v d rows0.length/\x.2.1<=L.length/\L.length<x.2.1+x.1/\x.2.2.length<=x.2.1/\rows0.length+1<=x.2.1/\namesP L en x.1 x.2.1 x.2.2=X /\
  ∃a,SI h0 h' r tk L en rv0 rows0 v x.2.1 rv d0 [] (encRA (⟨k,nm,x.2.2,0,0,pl⟩,a))/\RowsA h' rv (rows0++d0::[]) a/\SlL Arg.enc 2 44 h' a x.2.2/\InS (h0.next<=·) a) (fun x=>x.1) (L.length+1,p+1,[]) ?_ ?_
 ·exact⟨rfl,t1,by simp only;omega,by simp only;omega,by simp,by simp only;omega,hX,nilS,s1,.nil s1.rs.rows,.nil,fun _ _ _ he=>by cases he⟩
 rintro⟨n,q,acc⟩ ⟨tm2,ds⟩ h2 ⟨rfl,t2,hq,hqn,hacc,hlq,hX2,a,s2,ra2,ha2,hown2⟩
 simp only at t2 hq hqn hacc hlq hX2 s2 ra2 ha2
 rw[F46.l1]
 cases n with
 |zero=>omega
 |succ n=>
  simp only[namesP]at hX2
  simp only[F46.k8,F46.t8,t2.e0]
  refine⟨fun _=>False,fun _ h=>h.elim,plain_ok s2.rs.r s2.rs.t ?_⟩
  have t3:=fun b=>t2.puts [(86,.ptr r 0),(87,.sc (.bool b))] (by simp)
  cases hpl:plainP L q with
  |false=>
   simp only[hpl,zE,if_false]at hX2
   rw[<-hX2]at hR
   have e87:puts tm2 [(86,.ptr r 0),(87,.sc (.bool false))] 87=.sc (.bool false):=by simp
   have t4:=t3 false
   show F46.k7 _ _ _ ⟨puts tm2 [(86,.ptr r 0),(87,.sc (.bool false))],[]⟩ h2
   generalize puts tm2 [(86,.ptr r 0),(87,.sc (.bool false))]=tm3 at *
   have hw:IntKind.i64.wrap (d+1)=d+1:=wrap_in (by omega) (by omega)
   simp only[F46.k7,F46.t7,e87,aIf_b,zE,zC,zH,zD,thenQ,blockQ,zV]
   simp only[F46.k5,F46.t5,t4.e0,t4.e1,t4.e5,pBin_add,hw]
   have t5:=fun t u=>t4.puts [(96,.ptr r 0),(97,.sc (.int .i64 d)),(98,.sc (.int .i64 (d+1))),(99,t),(100,u)] (by simp)
   exact F46_held (row:=⟨k,nm,acc,0,0,pl⟩) (a:=a) hL hb (by omega) hM s2 ha2 hq hlq (fun t u=>(t5 t u).e0) (fun t u=>(t5 t u).e5) (fun t u=>(t5 t u).e6) hR
  |true=>
   simp only[hpl,zV]at hX2
   have e87:puts tm2 [(86,.ptr r 0),(87,.sc (.bool true))] 87=.sc (.bool true):=by simp
   have t4:=t3 true
   show F46.k7 _ _ _ ⟨puts tm2 [(86,.ptr r 0),(87,.sc (.bool true))],[]⟩ h2
   generalize puts tm2 [(86,.ptr r 0),(87,.sc (.bool true))]=tm3 at *
   simp only[F46.k7,F46.t7,e87,aIf_b,zF,zC,zI,zD]
   simp only[F46.k6,F46.t6]
   refine⟨fun _=>v,by simp[s2.vo],?_⟩
   simp only[t4.e5,t4.e0,pFld_ptr,lLd_f,s2.vo,ldk_mk,zG]
   simp only[encRA,zB,zA,cellK_some]
   refine⟨by simp,(·=r),fun id hid _=>?_,name_ok rfl hL.len s2.rs.r s2.rs.t ?_⟩
   ·have:=s2.vr
    exact hid ▸ ⟨.inl (hM r (.inl rfl)),by simp;exact fun e=>this e.symm⟩
   cases hs:nameP L en q with
   |error e=>
    rw[hs]at hX2
    rw[<-hX2]at hR
    intro h' f3
    exact⟨rfl,hR _ (s2.fr.trans (f3.mono fun _ h=>.inl (.inl h)))⟩
   |ok nm2=>
    rw[hs]at hX2
    simp only at hX2
    intro h3 f3 r3
    have s3:=s2.call f3 r3
    have ra3:=ra2.call s2 f3
    have ha3:=args_keep ha2 f3 s2.a_call
    have hlt2:=(nameP_ok hs).1
    refine⟨Arg.enc ⟨nm2,-1⟩,rfl,?_⟩
    show eBSl (some (2,44,[.string ⟨#[]⟩,.int .i64 0])) 1 [(0,.agg (Arg.enc ⟨nm2,-1⟩))] h3 _
    refine st_push (x:=⟨nm2,-1⟩) (fun id hid=>Or.inr hid) s3 ra3 ha3 hown2 (by omega) ?_
    intro v1 y h6 s6 ra6 hy6 iy6
    simp only[thenQ]
    exact⟨(n,q+1,acc++[⟨nm2,-1⟩]),by simp,trivial,t4.puts _ (by simp),by simp only;omega,by simp only;omega,by simp;omega,by simp only;omega,hX2,y,s6,ra6,hy6,iy6⟩
theorem F46_meas{d:Int}(hL:LOK L)(hM:∀id,SS r rv0 id->M id)(hp:p<=L.length){k:ByteArray}{pl:Int}(s:SI h0 h r tk L en rv0 rows0 v p rv d0 [] (encRA (⟨k,sEmpty,[],0,0,pl⟩,nilS)))(tm_:TM tm r v d rows0.length)
  (hR:Fin h0 r tk L en rv0 rows0 R (match argP L en p with |.error e=>.error e |.ok (a,p1)=>match argP L en p1 with |.error e=>.error e |.ok (b,p2)=>lineP L en p2 ⟨k,sEmpty,[a,b],0,0,pl⟩)) :
  F46.k17 (fun id=>M id\/h0.next<=id) (Ab.bodyQ Try.prog [] R) (Ab.bodyP R) ⟨tm,[]⟩ h:=by
 simp only[F46.k17,F46.t17]
 refine⟨fun _=>v,by simp[s.vo],?_⟩
 simp only[tm_.e5,tm_.e0,pFld_ptr,lLd_f,s.vo,ldk_mk,zG]
 have hW:∀id,id=r->id<h.next->(M id\/h0.next<=id)/\∀i∈[1],id≠(fun _=>v) i:=fun id hid _=>by
  have:=s.vr
  exact hid ▸ ⟨.inl (hM r (.inl rfl)),by simp;exact fun e=>this e.symm⟩
 refine⟨by simp,(·=r),hW,argument_ok rfl hL.len hp hL.dig hL.txt s.rs.r s.rs.t ?_⟩
 cases h1:argP L en p with
 |error e=>
  rw[h1]at hR
  intro h' f3
  exact⟨rfl,hR _ (s.fr.trans (f3.mono fun _ h=>.inl (.inl h)))⟩
 |ok x=>
  obtain⟨a,p1⟩:=x
  rw[h1]at hR
  simp only at hR
  intro h3 f3 r3
  have s3:=s.call f3 r3
  have b1:=argP_ok h1
  refine⟨(·=r),fun id hid hlt=>?_,argument_ok rfl hL.len b1.2 hL.dig hL.txt s3.rs.r s3.rs.t ?_⟩
  ·have:=s.vr
   exact hid ▸ ⟨.inl (hM r (.inl rfl)),by simp;exact fun e=>this e.symm⟩
  cases h2:argP L en p1 with
  |error e=>
   rw[h2]at hR
   intro h' f4
   exact⟨rfl,hR _ (s3.fr.trans (f4.mono fun _ h=>.inl (.inl h)))⟩
  |ok x=>
   obtain⟨b,p2⟩:=x
   rw[h2]at hR
   simp only at hR
   intro h4 f4 r4
   have s4:=s3.call f4 r4
   show eBSl (some (2,44,[.string ⟨#[]⟩,.int .i64 0,.string ⟨#[]⟩,.int .i64 0])) 2 [(0,.agg a.enc),(1,.agg b.enc)] h4 _
   refine app2' (f:=Arg.enc) Arg.enc_len (by decide) rfl Arg.enc_one (by decide) ?_
   intro v1 y h5 hy iy f5
   have s5:=s4.quiet f5
   obtain⟨id,hid⟩:=hy.sl (by simp)
   have s6:=s5.set 2 [y]
   have hy6:=args_keep hy (Fr.refl.put (h:=h5) (S:=(·=v)) (id:=v) (off:=2) (cs:=[y]) (.inl rfl)) s5.a_set
   have ey:avCells y=some [y]:=by subst hid;rfl
   simp only[eStore_f,s5.vo,ey,stk_mk]
   refine⟨⟨.inr s.vn,by subst hid;rfl,rfl,by simp[encRA]⟩,?_⟩
   have t4:=tm_.puts [(126,.ptr v 2),(127,nilS),(128,.ptr r 0),(130,.ptr r 0),(129,.agg a.enc),(131,.agg b.enc),(132,v1),(133,y),(134,.ptr v 2)] (by simp)
   show F46.k16 _ _ _ ⟨puts tm [(126,.ptr v 2),(127,nilS),(128,.ptr r 0),(130,.ptr r 0),(129,.agg a.enc),(131,.agg b.enc),(132,v1),(133,y),(134,.ptr v 2)],[]⟩ _
   generalize puts tm [(126,.ptr v 2),(127,nilS),(128,.ptr r 0),(130,.ptr r 0),(129,.agg a.enc),(131,.agg b.enc),(132,v1),(133,y),(134,.ptr v 2)]=tm3 at *
   simp only[F46.k16,F46.t16,t4.e0]
   have t5:=fun t=>t4.puts [(135,.ptr r 0),(136,t)] (by simp)
   exact F46_line (row:=⟨k,sEmpty,[a,b],0,0,pl⟩) (a:=y) hL hM s6 hy6 (fun t=>(t5 t).e0) (fun t=>(t5 t).e5) (fun t=>(t5 t).e6) hR
theorem F46_reset{d:Int}(hL:LOK L)(hM:∀id,SS r rv0 id->M id)(hp:p<=L.length){k:ByteArray}{pl:Int}(s:SI h0 h r tk L en rv0 rows0 v p rv d0 [] (encRA (⟨k,sEmpty,[],0,0,pl⟩,nilS)))(tm_:TM tm r v d rows0.length)
  (hR:Fin h0 r tk L en rv0 rows0 R (match argP L en p with |.error e=>.error e |.ok (a,p1)=>lineP L en p1 ⟨k,sEmpty,[a],0,0,pl⟩)) :
  F46.k19 (fun id=>M id\/h0.next<=id) (Ab.bodyQ Try.prog [] R) (Ab.bodyP R) ⟨tm,[]⟩ h:=by
 simp only[F46.k19,F46.t19]
 refine⟨fun _=>v,by simp[s.vo],?_⟩
 simp only[tm_.e5,tm_.e0,pFld_ptr,lLd_f,s.vo,ldk_mk,zG]
 refine⟨by simp,(·=r),fun id hid _=>?_,argument_ok rfl hL.len hp hL.dig hL.txt s.rs.r s.rs.t ?_⟩
 ·have:=s.vr
  exact hid ▸ ⟨.inl (hM r (.inl rfl)),by simp;exact fun e=>this e.symm⟩
 cases h1:argP L en p with
 |error e=>
  rw[h1]at hR
  intro h' f3
  exact⟨rfl,hR _ (s.fr.trans (f3.mono fun _ h=>.inl (.inl h)))⟩
 |ok x=>
  obtain⟨a,p1⟩:=x
  rw[h1]at hR
  simp only at hR
  intro h4 f4 r4
  have s4:=s.call f4 r4
  show eBSl (some (2,44,[.string ⟨#[]⟩,.int .i64 0])) 1 [(0,.agg a.enc)] h4 _
  refine st_push (x:=a) (fun id hid=>Or.inr hid) s4 (.nil s4.rs.rows) .nil (fun _ _ _ he=>by cases he) (by simp) ?_
  intro v1 y h6 s6 ra6 hy6 iy6
  have t4:=tm_.puts [(139,.ptr v 2),(140,nilS),(141,.ptr r 0),(142,.agg a.enc),(143,v1),(144,y),(145,.ptr v 2)] (by simp)
  show F46.k18 _ _ _ ⟨puts tm [(139,.ptr v 2),(140,nilS),(141,.ptr r 0),(142,.agg a.enc),(143,v1),(144,y),(145,.ptr v 2)],[]⟩ _
  generalize puts tm [(139,.ptr v 2),(140,nilS),(141,.ptr r 0),(142,.agg a.enc),(143,v1),(144,y),(145,.ptr v 2)]=tm3 at *
  simp only[F46.k18,F46.t18,t4.e0]
  have t5:=fun t=>t4.puts [(146,.ptr r 0),(147,t)] (by simp)
  exact F46_line (row:=⟨k,sEmpty,[a],0,0,pl⟩) (a:=y) hL hM s6 hy6 (fun t=>(t5 t).e0) (fun t=>(t5 t).e5) (fun t=>(t5 t).e6) hR
theorem F46_use{d:Int}{tc:Nat}{t:Tok}(hL:LOK L)(hM:∀id,SS r rv0 id->M id)(hp:p<=L.length)(hlen:rows0.length+1<=p)(hcv:tc≠v)(e4:tm 4=.ptr tc 0)(hc:h.obj tc=some (oTok t)){pl:Int}(s:SI h0 h r tk L en rv0 rows0 v p rv d0 [] (encRA (⟨t.text,sEmpty,[],0,0,pl⟩,nilS)))(tm_:TM tm r v d rows0.length)
  (hR:Fin h0 r tk L en rv0 rows0 R (match argsP L en (L.length+1) p [] with |.error e=>.error e |.ok (l,p')=>lineP L en p' ⟨sUse,t.text,l,0,0,pl⟩)) :
  F46.k25 (fun id=>M id\/h0.next<=id) (Ab.bodyQ Try.prog [] R) (Ab.bodyP R) ⟨tm,[]⟩ h:=by
 simp only[F46.k25,F46.t25]
 refine⟨fun _=>tc,by simp[hc],?_⟩
 simp only[tm_.e5,e4,pFld_ptr,lLd_f,hc,ldk_mk,zG,zB,zA,cellK_some,eStore_f,s.vo,avC_str,stk_mk]
 refine⟨by simp,⟨⟨.inr s.vn,by simp;exact fun e=>hcv e.symm⟩,rfl,rfl,by simp[encRA]⟩,?_⟩
 have s1:=s.set 0 [.sc (.string sUse)]
 simp only[s1.vo,stk_mk]
 refine⟨⟨.inr s.vn,rfl,rfl,by simp[encRA]⟩,?_⟩
 have s2:=s1.set 1 [.sc (.string t.text)]
 have t1:=tm_.puts [(55,.ptr tc 1),(56,.sc (.string t.text)),(57,.ptr v 0),(58,.ptr v 1)] (by simp)
 show F46.k24 _ _ _ ⟨puts tm [(55,.ptr tc 1),(56,.sc (.string t.text)),(57,.ptr v 0),(58,.ptr v 1)],[]⟩ _
 generalize puts tm [(55,.ptr tc 1),(56,.sc (.string t.text)),(57,.ptr v 0),(58,.ptr v 1)]=tm1 at *
 generalize (h.put v 0 [.sc (.string sUse)]).put v 1 [.sc (.string t.text)]=h1 at *
 unfold F46.k24
 generalize hX:argsP L en (L.length+1) p []=X at hR
 have hL0:=hL.len
 refine aLoop_of (ι:=Nat×Nat×List Arg) (fun x s' h'=>s'.ds=[]/\TM s'.tm r v d rows0.length/\x.2.1<=L.length/\L.length<x.2.1+x.1/\x.2.2.length<=x.2.1/\argsP L en x.1 x.2.1 x.2.2=X /\
  ∃a,SI h0 h' r tk L en rv0 rows0 v x.2.1 rv d0 [] (encRA (⟨sUse,t.text,x.2.2,0,0,pl⟩,a))/\RowsA h' rv (rows0++d0::[]) a/\SlL Arg.enc 2 44 h' a x.2.2/\InS (h0.next<=·) a) (fun x=>x.1) (L.length+1,p,[]) ?_ ?_
 ·exact⟨rfl,t1,hp,by simp only;omega,by simp,hX,nilS,s2,.nil s2.rs.rows,.nil,fun _ _ _ he=>by cases he⟩
 rintro⟨n,q,acc⟩ ⟨tm2,ds⟩ h2 ⟨rfl,t2,hq,hqn,hacc,hX2,a,s2,ra2,ha2,hown2⟩
 simp only at t2 hq hqn hacc hX2 s2 ra2 ha2
 rw[F46.l2]
 cases n with
 |zero=>omega
 |succ n=>
  simp only[argsP]at hX2
  simp only[F46.k23,F46.t23,t2.e0]
  refine⟨fun _=>False,fun _ h=>h.elim,plain_ok s2.rs.r s2.rs.t ?_⟩
  have t3:=fun b=>t2.puts [(59,.ptr r 0),(60,.sc (.bool b))] (by simp)
  cases hpl:plainP L q with
  |false=>
   simp only[hpl,zE,if_false]at hX2
   rw[<-hX2]at hR
   have e87:puts tm2 [(59,.ptr r 0),(60,.sc (.bool false))] 60=.sc (.bool false):=by simp
   have t4:=t3 false
   show F46.k22 _ _ _ ⟨puts tm2 [(59,.ptr r 0),(60,.sc (.bool false))],[]⟩ h2
   generalize puts tm2 [(59,.ptr r 0),(60,.sc (.bool false))]=tm3 at *
   simp only[F46.k22,F46.t22,e87,aIf_b,zE,zC,zH,zD,thenQ,blockQ,zV]
   simp only[F46.k20,F46.t20,t4.e0]
   have t5:=fun t=>t4.puts [(68,.ptr r 0),(69,t)] (by simp)
   exact F46_line (row:=⟨sUse,t.text,acc,0,0,pl⟩) (a:=a) hL hM s2 ha2 (fun t=>(t5 t).e0) (fun t=>(t5 t).e5) (fun t=>(t5 t).e6) hR
  |true=>
   simp only[hpl,zV]at hX2
   have e87:puts tm2 [(59,.ptr r 0),(60,.sc (.bool true))] 60=.sc (.bool true):=by simp
   have t4:=t3 true
   show F46.k22 _ _ _ ⟨puts tm2 [(59,.ptr r 0),(60,.sc (.bool true))],[]⟩ h2
   generalize puts tm2 [(59,.ptr r 0),(60,.sc (.bool true))]=tm3 at *
   simp only[F46.k22,F46.t22,e87,aIf_b,zF,zC,zI,zD]
   simp only[F46.k21,F46.t21]
   refine⟨fun _=>v,by simp[s2.vo],?_⟩
   simp only[t4.e5,t4.e0,pFld_ptr,lLd_f,s2.vo,ldk_mk,zG]
   simp only[encRA,zB,zA,cellK_some]
   refine⟨by simp,(·=r),fun id hid _=>?_,argument_ok rfl hL.len hq hL.dig hL.txt s2.rs.r s2.rs.t ?_⟩
   ·have:=s2.vr
    exact hid ▸ ⟨.inl (hM r (.inl rfl)),by simp;exact fun e=>this e.symm⟩
   cases hs:argP L en q with
   |error e=>
    rw[hs]at hX2
    rw[<-hX2]at hR
    intro h' f3
    exact⟨rfl,hR _ (s2.fr.trans (f3.mono fun _ h=>.inl (.inl h)))⟩
   |ok x=>
    obtain⟨x,q2⟩:=x
    rw[hs]at hX2
    simp only at hX2
    intro h3 f3 r3
    have s3:=s2.call f3 r3
    have ra3:=ra2.call s2 f3
    have ha3:=args_keep ha2 f3 s2.a_call
    have hlt2:=argP_ok hs
    show eBSl (some (2,44,[.string ⟨#[]⟩,.int .i64 0])) 1 [(0,.agg x.enc)] h3 _
    refine st_push (x:=x) (fun id hid=>Or.inr hid) s3 ra3 ha3 hown2 (by omega) ?_
    intro v1 y h6 s6 ra6 hy6 iy6
    simp only[thenQ]
    exact⟨(n,q2,acc++[x]),by simp,trivial,t4.puts _ (by simp),by simp only;omega,by simp only;omega,by simp;omega,hX2,y,s6,ra6,hy6,iy6⟩
end
end
section
open Go.Ab
structure TX (tm:Nat->AV) (r v:Nat) (d:Int) (n tc:Nat) (t:Tok):Prop where
 m:TM tm r v d n
 e4:tm 4=.ptr tc 0
 e54:tm 54=.sc (.string t.text)
theorem TX.two{tm:Nat->AV}{r v:Nat}{d:Int}{n tc:Nat}{t:Tok}(x:TX tm r v d n tc t){i j:Nat}(hi:54<i)(hj:54<j)(a b:AV):TX (puts tm [(i,a),(j,b)]) r v d n tc t/\puts tm [(i,a),(j,b)] j=b:=by
 refine⟨⟨x.m.puts _ (by simp;omega),?_,?_⟩,by simp only[puts];exact upd_same _ _ _⟩
 ·simp only[puts];rw[upd_ne (by omega),upd_ne (by omega)];exact x.e4
 ·simp only[puts];rw[upd_ne (by omega),upd_ne (by omega)];exact x.e54
section
variable {h0 h:AH} {r tk:Nat} {L:List Tok} {en:Int} {rv0:AV} {rows0:List Row} {v p:Nat} {rv:AV} {d0:Row} {M:Nat->Prop} {R:AE->AH->Prop} {tm:Nat->AV}
theorem F46_switch{d:Int}{kk tc:Nat}{t:Tok}(hL:LOK L)(hb:BodyOK L en kk)(hd:d=32-(kk:Int))(hkk:kk<=32)(hp:p+1<=L.length)(hlen:rows0.length<=p)(hM:∀id,SS r rv0 id->M id)(hcv:tc≠v)(hc:h.obj tc=some (oTok t))
  (s:SI h0 h r tk L en rv0 rows0 v (p+1) rv d0 [] (encRA (⟨t.text,sEmpty,[],0,0,t.at_⟩,nilS))) (x0:TX tm r v d rows0.length tc t)
  (hR:Fin h0 r tk L en rv0 rows0 R (stmtB L en kk (stepP L en kk) p t)) :
  F46.k38 (fun id=>M id\/h0.next<=id) (Ab.bodyQ Try.prog [] R) (Ab.bodyP R) ⟨tm,[]⟩ h:=by
 unfold stmtB at hR
 have hlp:rows0.length+1<=p+1:=by omega
 have regs:∀(tm:Nat->AV),TX tm r v d rows0.length tc t->tm 70=.sc (.bool true)->(t.text=sQubits\/t.text=sBits)->F46.k36 (fun id=>M id\/h0.next<=id) (Ab.bodyQ Try.prog [] R) (Ab.bodyP R) ⟨tm,[]⟩ h:=by
  intro tm x e hor
  rw[zX hor]at hR
  simp only[F46.k36,F46.t36,e,aIf_b,zD,zF,zC,zI]
  exact F46_regs hL hM s x.m hR
 simp only[F46.k38,F46.t38,x0.e54,pBin_seql]
 obtain⟨x1,e1⟩:=x0.two (i:=71) (j:=70) (by decide) (by decide) (.sc (.bool (decide (t.text=sQubits)))) (.sc (.bool (decide (t.text=sQubits))))
 generalize puts tm [(71,.sc (.bool (decide (t.text=sQubits)))),(70,.sc (.bool (decide (t.text=sQubits))))]=tm1 at *
 simp only[F46.k37,F46.t37,e1,aIf_b,x1.e54,pBin_seql]
 refine⟨fun h1=>regs tm1 x1 (by rw[e1,h1]) (.inl (of_decide_eq_true h1)),fun h1=>?_⟩
 obtain⟨x2,e2⟩:=x1.two (i:=72) (j:=70) (by decide) (by decide) (.sc (.bool (decide (t.text=sBits)))) (.sc (.bool (decide (t.text=sBits))))
 generalize puts tm1 [(72,.sc (.bool (decide (t.text=sBits)))),(70,.sc (.bool (decide (t.text=sBits))))]=tm2 at *
 by_cases h2:t.text=sBits
 ·exact regs tm2 x2 (by rw[e2,zL h2]) (.inr h2)
 rw[zW (fun hor=>hor.elim (of_decide_eq_false h1) h2)]at hR
 clear regs
 rw[zK h2]at e2
 simp only[F46.k36,F46.t36,e2,aIf_b,zE,zC,zD,zH]
 simp only[F46.k35,F46.t35,x2.e54,pBin_seql]
 obtain⟨x3,e3⟩:=x2.two (i:=82) (j:=81) (by decide) (by decide) (.sc (.bool (decide (t.text=sGate)))) (.sc (.bool (decide (t.text=sGate))))
 generalize puts tm2 [(82,.sc (.bool (decide (t.text=sGate)))),(81,.sc (.bool (decide (t.text=sGate))))]=tm3 at *
 simp only[F46.k34,F46.t34,e3,aIf_b]
 refine⟨fun h3=>?_,fun h3=>?_⟩
 ·rw[zX (of_decide_eq_true h3)]at hR
  exact F46_gate hL hb hd hkk hlp hM s x3.m hR
 rw[zW (of_decide_eq_false h3)]at hR
 simp only[F46.k33,F46.t33,x3.e54,pBin_seql]
 obtain⟨x4,e4⟩:=x3.two (i:=102) (j:=101) (by decide) (by decide) (.sc (.bool (decide (t.text=sRepeat)))) (.sc (.bool (decide (t.text=sRepeat))))
 generalize puts tm3 [(102,.sc (.bool (decide (t.text=sRepeat)))),(101,.sc (.bool (decide (t.text=sRepeat))))]=tm4 at *
 simp only[F46.k32,F46.t32,e4,aIf_b]
 refine⟨fun h3=>?_,fun h4=>?_⟩
 ·rw[zX (of_decide_eq_true h3)]at hR
  exact F46_rep hL hb hd hkk hlp hM s x4.m hR
 rw[zW (of_decide_eq_false h4)]at hR
 simp only[F46.k31,F46.t31,x4.e54,pBin_seql]
 obtain⟨x5,e5⟩:=x4.two (i:=112) (j:=111) (by decide) (by decide) (.sc (.bool (decide (t.text=sIf)))) (.sc (.bool (decide (t.text=sIf))))
 generalize puts tm4 [(112,.sc (.bool (decide (t.text=sIf)))),(111,.sc (.bool (decide (t.text=sIf))))]=tm5 at *
 simp only[F46.k30,F46.t30,e5,aIf_b]
 refine⟨fun h3=>?_,fun h5=>?_⟩
 ·rw[zX (of_decide_eq_true h3)]at hR
  exact F46_if hL hb hd hkk hlp hM s x5.m hR
 rw[zW (of_decide_eq_false h5)]at hR
 simp only[F46.k29,F46.t29,x5.e54,pBin_seql]
 obtain⟨x6,e6⟩:=x5.two (i:=125) (j:=124) (by decide) (by decide) (.sc (.bool (decide (t.text=sMeasure)))) (.sc (.bool (decide (t.text=sMeasure))))
 generalize puts tm5 [(125,.sc (.bool (decide (t.text=sMeasure)))),(124,.sc (.bool (decide (t.text=sMeasure))))]=tm6 at *
 simp only[F46.k28,F46.t28,e6,aIf_b]
 refine⟨fun h3=>?_,fun h6=>?_⟩
 ·rw[zX (of_decide_eq_true h3)]at hR
  exact F46_meas hL hM hp s x6.m hR
 rw[zW (of_decide_eq_false h6)]at hR
 simp only[F46.k27,F46.t27,x6.e54,pBin_seql]
 obtain⟨x7,e7⟩:=x6.two (i:=138) (j:=137) (by decide) (by decide) (.sc (.bool (decide (t.text=sReset)))) (.sc (.bool (decide (t.text=sReset))))
 generalize puts tm6 [(138,.sc (.bool (decide (t.text=sReset)))),(137,.sc (.bool (decide (t.text=sReset))))]=tm7 at *
 simp only[F46.k26,F46.t26,e7,aIf_b]
 refine⟨fun h3=>?_,fun h7=>?_⟩
 ·rw[zX (of_decide_eq_true h3)]at hR
  exact F46_reset hL hM hp s x7.m hR
 rw[zW (of_decide_eq_false h7)]at hR
 exact F46_use hL hM hp hlp hcv x7.e4 hc s x7.m hR
end
section
variable {h:AH} {r tk:Nat} {L:List Tok} {en:Int} {rv:AV} {rows:List Row} {p:Nat} {M:Nat->Prop} {R:AE->AH->Prop}
theorem F46_head{d:Int}{kk tc:Nat}{t:Tok}{h1:AH}{tm:Nat->AV}(hL:LOK L)(hb:BodyOK L en kk)(hd:d=32-(kk:Int))(hkk:kk<=32)(hp:p+1<=L.length)(hlen:rows.length<=p)(hM:∀id,SS r rv id->M id)
  (hrn:r<h.next) (e0:tm 0=.ptr r 0) (e1:tm 1=.sc (.int .i64 d)) (e4:tm 4=.ptr tc 0) (hc:h1.obj tc=some (oTok t)) (f1:Fr h h1 (·=r)) (rs1:RS h1 r tk L en (p+1) rv rows)
  (hrvn:∀id off n,rv=.sl id off n->id<h.next)
  (hR:Fin h r tk L en rv rows R (stmtB L en kk (stepP L en kk) p t)) :
  F46.k42 (fun id=>M id\/h.next<=id) (Ab.bodyQ Try.prog [] R) (Ab.bodyP R) ⟨tm,[]⟩ h1:=by
 have hL0:=hL.len
 simp only[F46.k42,F46.t42,e4,pFld_ptr,lLd_f,hc,ldk_mk,zG,zB,zA,cellK_some]
 refine⟨encRA (⟨t.text,sEmpty,[],0,0,t.at_⟩,nilS),rfl,?_⟩
 simp only[eAlloc_d]
 refine⟨rfl,?_⟩
 have hv:=AH.alloc_new h1 (mkO ([.string ⟨#[]⟩,.string ⟨#[]⟩,.slice none 0 0,.int .i64 0,.int .i64 0,.int .i64 0].map AV.sc) 6 42)
 simp only[eStore_f,hv,avC_agg,stk_mk]
 refine⟨⟨.inr f1.next,rfl,rfl,by simp⟩,?_⟩
 have f2:=((Fr.refl (h:=h1) (S:=fun _=>False)).alloc (mkO ([.string ⟨#[]⟩,.string ⟨#[]⟩,.slice none 0 0,.int .i64 0,.int .i64 0,.int .i64 0].map AV.sc) 6 42)).put (id:=h1.next) (off:=0) (cs:=encRA (⟨t.text,sEmpty,[],0,0,t.at_⟩,nilS)) (.inr (zU _))
 have hv2:=put_row (off:=0) (cs:=encRA (⟨t.text,sEmpty,[],0,0,t.at_⟩,nilS)) hv
 have hvn:h1.next<((h1.alloc (mkO ([.string ⟨#[]⟩,.string ⟨#[]⟩,.slice none 0 0,.int .i64 0,.int .i64 0,.int .i64 0].map AV.sc) 6 42)).put h1.next 0 (encRA (⟨t.text,sEmpty,[],0,0,t.at_⟩,nilS))).next:=by simp[AH.put_next,AH.alloc_next]
 generalize (h1.alloc (mkO ([.string ⟨#[]⟩,.string ⟨#[]⟩,.slice none 0 0,.int .i64 0,.int .i64 0,.int .i64 0].map AV.sc) 6 42)).put h1.next 0 (encRA (⟨t.text,sEmpty,[],0,0,t.at_⟩,nilS))=h2 at *
 have hv2:h2.obj h1.next=some (mkO (encRA (⟨t.text,sEmpty,[],0,0,t.at_⟩,nilS)) 6 42):=hv2
 have rs2:RS h2 r tk L en (p+1) rv rows:=rs1.step (f2.mono fun _ h=>h.elim) (f2.obj rs1.r fun h=>h)
 have hc2:=f2.obj hc fun h=>h
 have f2':Fr h h2 (·=r):=f1.trans (f2.mono fun _ h=>h.elim)
 have htv:tc≠h1.next:=by have:=h1.lt _ _ hc;omega
 have vn:=f1.next
 generalize h1.next=v at *
 generalize htm:puts tm _=tm1
 have g0:tm1 0=.ptr r 0:=by rw[<-htm];simp[e0]
 have g1:tm1 1=.sc (.int .i64 d):=by rw[<-htm];simp[e1]
 have g4:tm1 4=.ptr tc 0:=by rw[<-htm];simp[e4]
 have g5:tm1 5=.ptr v 0:=by rw[<-htm];simp
 clear htm
 simp only[F46.k41,F46.t41,g0,pNil_ptr,pFld_ptr,lLd_f,rs2.r,ldk_mk,zG,zB,zA,cellK_some,rs2.rows.len.1,rs2.rows.len.2,zH]
 generalize htm:puts tm1 _=tm2
 have k0:tm2 0=.ptr r 0:=by rw[<-htm];simp[g0]
 have k1:tm2 1=.sc (.int .i64 d):=by rw[<-htm];simp[g1]
 have k4:tm2 4=.ptr tc 0:=by rw[<-htm];simp[g4]
 have k5:tm2 5=.ptr v 0:=by rw[<-htm];simp[g5]
 have k6:tm2 6=.sc (.int .i64 rows.length):=by rw[<-htm];simp
 clear htm
 simp only[F46.k40,F46.t40,k0,k5,pNil_ptr,pFld_ptr,lLd_f,lLdn_f,rs2.r,hv2,ldk_mk,ldnk_mk,zG,zB,zA,cellK_some]
 have hen:(encRA (⟨t.text,sEmpty,[],0,0,t.at_⟩,nilS)).length=6:=rfl
 refine⟨by rw[hen];exact zU _,?_⟩
 rw[show List.take 6 (List.drop 0 (encRA (⟨t.text,sEmpty,[],0,0,t.at_⟩,nilS)))=encRA (⟨t.text,sEmpty,[],0,0,t.at_⟩,nilS) from rfl]
 obtain⟨l,l1,l2,l3⟩:=rs2.rows
 have hll:l.length=rows.length:=by rw[<-l2];simp
 have hsl:SlL encRA 6 42 h2 rv l:=l1
 refine app1t (f:=encRA) (t:=(⟨t.text,sEmpty,[],0,0,t.at_⟩,nilS)) encRA_len (by decide) rfl (by decide) rfl hsl ?_ (by omega) ?_
 ·intro id off n he
  exact .inl (hM id (.inr ⟨n,by rw[he,((rs2.hrv he).1)]⟩))
 intro y h3 hy iy k3 n3
 have f3:Fr h2 h3 (fun i=>∃off n,rv=.sl i off n):=⟨n3,fun i hi hs=>k3 i hi fun off n he=>hs ⟨off,n,he⟩⟩
 have not:∀i o,h2.obj i=some o->o.ty≠42->¬ ∃off n,rv=.sl i off n:=by
  rintro i o ho hne ⟨off,n,he⟩
  obtain⟨_,_,o',ho',ht⟩:=rs2.rows.id he
  rw[ho]at ho';cases ho';exact hne ht
 have r3:=f3.obj rs2.r (not _ _ rs2.r (show(105:Nat)≠42 by decide))
 simp only[k0,pNil_ptr,pFld_ptr,eStore_f,r3,zG]
 obtain⟨yid,hyid⟩:=hy.sl (by simp)
 have ey:avCells y=some [y]:=by rw[hyid];rfl
 simp only[ey,stk_mk]
 refine⟨⟨.inl (hM r (.inl rfl)),by rw[hyid];rfl,rfl,by simp⟩,?_⟩
 have hvr:v<h2.next:=hvn
 have s3:SI h (h3.put r 3 [y]) r tk L en rv rows v (p+1) y ⟨t.text,sEmpty,[],0,0,t.at_⟩ [] (encRA (⟨t.text,sEmpty,[],0,0,t.at_⟩,nilS)):=by
  have f4:Fr h3 (h3.put r 3 [y]) (·=r):=Fr.refl.put (.inl rfl)
  have vr:v≠r:=by omega
  have yr:∀id,y=.sl id 0 (l++[((⟨t.text,sEmpty,[],0,0,t.at_⟩:Row),nilS)]).length->¬id=r:=fun id he hid=>by
   have:=iy id _ _ he
   omega
  refine⟨f2'.mono (fun _ h=>.inl h) |>.trans (f3.mono fun id ⟨off,n,he⟩=>.inl (.inr ⟨n,by rw[he,(rs2.hrv he).1]⟩)) |>.trans (f4.mono fun _ h=>.inl (.inl h)),⟨?_,?_,l++[(⟨t.text,sEmpty,[],0,0,t.at_⟩,nilS)],hy.of_fr f4 yr,by simp[l2],?_⟩,?_,?_,vn,hrn⟩
  ·rw[put_row r3];rfl
  ·exact f4.obj (f3.obj rs2.t (not _ _ rs2.t (show(126:Nat)≠42 by decide))) (obj_ne rs2.t rs2.r (show(126:Nat)≠105 by decide))
  ·intro z hz
   rcases List.mem_append.1 hz with hz |hz
   ·rcases l3 z hz with h4 |⟨id,h4,ho⟩
    ·exact .inl h4
    ·exact .inr ⟨id,h4,f4.obj (f3.obj ho (not _ _ ho (show(44:Nat)≠42 by decide))) (obj_ne ho rs2.r (show(44:Nat)≠105 by decide))⟩
   ·simp only[List.mem_singleton]at hz
    subst hz
    exact .nil
  ·intro id off n he
   have:=iy id off n he
   omega
  ·refine f4.obj (f3.obj hv2 ?_) vr
   rintro⟨off,n,he⟩
   have:=hrvn v off n he
   omega
 have hc3:(h3.put r 3 [y]).obj tc=some (oTok t):=by
  rw[AH.put_old (obj_ne hc2 rs2.r (show(126:Nat)≠105 by decide))]
  exact f3.obj hc2 (not _ _ hc2 (show(126:Nat)≠42 by decide))
 generalize h3.put r 3 [y]=h4 at *
 generalize htm:puts tm2 _=tm3
 have j0:tm3 0=.ptr r 0:=by rw[<-htm];simp[k0]
 have j1:tm3 1=.sc (.int .i64 d):=by rw[<-htm];simp[k1]
 have j4:tm3 4=.ptr tc 0:=by rw[<-htm];simp[k4]
 have j5:tm3 5=.ptr v 0:=by rw[<-htm];simp[k5]
 have j6:tm3 6=.sc (.int .i64 rows.length):=by rw[<-htm];simp[k6]
 clear htm
 simp only[F46.k39,F46.t39,j4,pFld_ptr,lLd_f,hc3,ldk_mk,zG,zB,zA,cellK_some]
 refine F46_switch hL hb hd hkk hp hlen hM htv hc3 s3 ⟨⟨?_,?_,?_,?_⟩,?_,?_⟩ hR<;>simp[j0,j1,j4,j5,j6]
end
end
section
open Go.Ab
section
variable {L:List Tok} {en:Int}
theorem stmt_of{kk:Nat}(hL:LOK L)(hkk:kk<=32)(hb:BodyOK L en kk):StmtOK L en kk:=by
 intro h r tk rv rows M R p d hd hM hrs hp hrp hR
 have hrn:=h.lt _ _ hrs.r
 have htn:=h.lt _ _ hrs.t
 have hMr:=hM r (.inl rfl)
 have hL0:=hL.len
 rw[stmtP_eq]at hR
 apply F46.calls
 have hr:=hrs.r
 have ht:=hrs.t
 have tail:∀(t:Tok)(tm:Nat->AV)(tc:Nat)(h1:AH),nextP L en p (isNameP L p)=.ok t->tm 0=.ptr r 0->tm 1=.sc (.int .i64 d)->tm 4=.ptr tc 0->h1.obj tc=some (oTok t)->h.next<=tc->Fr h h1 (·=r)->h1.obj r=some (oRd tk L.length (p+1:Nat) en rv)->F46.k42 (fun id=>M id\/h.next<=id) (Ab.bodyQ Try.prog [] R) (Ab.bodyP R) ⟨tm,[]⟩ h1:=by
  intro t tm tc h1 hx e0 e1 e4 hc hcn hf hr1
  rw[hx]at hR
  have:=(nextP_ok hx).1
  exact F46_head hL hb hd hkk (by omega) hrp hM hrn e0 e1 e4 hc hf (hrs.step hf hr1) (fun id off n he=>(hrs.hrv he).2.2) hR
 have he:∀e,nextP L en p (isNameP L p)=.error e->∀h',Fr h h' (·=r)->R (.pan (faultV e)) h':=by
  intro e hx h' hf;rw[hx]at hR;exact hR _ (hf.mono fun _ h=>.inl h)
 have A1:∀(tmf:AV->AV->Nat->AV),(∀a b,tmf a b 0=.ptr r 0/\tmf a b 1=.sc (.int .i64 d)/\tmf a b 4=b)->aCall Try.prog (fun id=>M id\/h.next<=id) 71 [.ptr r 0,.sc (.bool (isNameP L p))] h (fun t44 h45=>eAlloc (some [.int .i64 0,.string ⟨#[]⟩,.int .i64 0]) 3 126 h45 fun t46 h47=>
   eStore (some 3) t46 t44 h47 (fun id=>M id\/h.next<=id) fun h48=>F46.k42 (fun id=>M id\/h.next<=id) (Ab.bodyQ Try.prog [] R) (Ab.bodyP R) ⟨tmf t44 t46,[]⟩ h48) (Ab.bodyP R []):=by
  intro tmf htm
  refine⟨(·=r),fun _ h _=>h ▸ .inl hMr,next_ok rfl hL0 hr ht ?_⟩
  cases hx:nextP L en p (isNameP L p) with
  |error e=>intro h' h1;exact⟨rfl,he e hx h' h1⟩
  |ok t=>
   intro h' h1 h2
   have h3:=h1.next
   have h4:=h'.lt _ _ h2
   simp[-F46.k42,Tok.enc,AH.alloc_obj,h3]
   obtain⟨m0,m1,m4⟩:=htm (.agg [.sc (.int .i64 t.kind),.sc (.string t.text),.sc (.int .i64 t.at_)]) (.ptr h'.next 0)
   refine tail t _ h'.next _ hx m0 m1 m4 (by simp[AH.put_obj,AH.alloc_obj]) h3 ((h1.alloc _).put (.inr h3)) (by simp[AH.put_obj,AH.alloc_obj,nel h4,h2])
 have A2:∀(tmf:AV->AV->Nat->AV),(∀a b,tmf a b 0=.ptr r 0/\tmf a b 1=.sc (.int .i64 d)/\tmf a b 4=b)->eAlloc (some [.int .i64 0,.string ⟨#[]⟩,.int .i64 0]) 3 126 h fun t49 h50=>aCall Try.prog (fun id=>M id\/h.next<=id) 71 [.ptr r 0,.sc (.bool (isNameP L p))] h50 (fun t51 h52=>
   eStore (some 3) t49 t51 h52 (fun id=>M id\/h.next<=id) fun h53=>F46.k42 (fun id=>M id\/h.next<=id) (Ab.bodyQ Try.prog [] R) (Ab.bodyP R) ⟨tmf t51 t49,[]⟩ h53) (Ab.bodyP R []):=by
  intro tmf htm
  simp only[eAlloc_d]
  refine⟨rfl,(·=r),fun _ h _=>h ▸ .inl hMr,next_ok rfl hL0 (p:=p) (L:=L) (tk:=tk) (en:=en) (rv:=rv) (by rw[AH.alloc_old hrn];exact hr) (by rw[AH.alloc_old htn];exact ht) ?_⟩
  have hf:=(Fr.refl (h:=h) (S:=(·=r))).alloc (mkO ([.int .i64 0,.string ⟨#[]⟩,.int .i64 0].map .sc) 3 126)
  cases hx:nextP L en p (isNameP L p) with
  |error e=>intro h' h1;exact⟨rfl,he e hx h' (hf.trans (h1.mono fun _ h=>.inl h))⟩
  |ok t=>
   intro h' h1 h2
   have h3:=h1.obj (AH.alloc_new _ _) (nel hrn).2.1
   have h4:=h1.next
   simp only[AH.alloc_next]at h4
   simp[-F46.k42,Tok.enc,h3]
   obtain⟨m0,m1,m4⟩:=htm (.agg [.sc (.int .i64 t.kind),.sc (.string t.text),.sc (.int .i64 t.at_)]) (.ptr h.next 0)
   refine tail t _ h.next _ hx m0 m1 m4 (by simp[AH.put_obj,h3]) (zU _) ((hf.trans (h1.mono fun _ h=>.inl h)).put (.inr (zU _))) (by simp[AH.put_obj,nel hrn,h2])
 by_cases hlt:p<L.length
 ·by_cases hk:L[p].kind=1
  ·have hw:isNameP L p=true:=by simp[isNameP,hlt,hk]
   simp only[hw]at A1 A2
   simp[-F46.k42,-eAlloc_d,-eStore_f,hr,ht,hlt,flat_get0 Tok.enc_len,flat_get Tok.enc_len,Tok.enc,hk]
   exact⟨A1 _ (fun _ _=>by simp),A2 _ (fun _ _=>by simp)⟩
  ·have hw:isNameP L p=false:=by simp[isNameP,hlt,hk]
   have hkb:(L[p].kind==1)=false:=by simpa using hk
   simp only[hw]at A1 A2
   simp[-F46.k42,-eAlloc_d,-eStore_f,hr,ht,hlt,flat_get0 Tok.enc_len,flat_get Tok.enc_len,Tok.enc,hkb]
   exact⟨A1 _ (fun _ _=>by simp),A2 _ (fun _ _=>by simp)⟩
 ·have hw:isNameP L p=false:=by simp[isNameP,hlt]
  simp only[hw]at A1 A2
  simp[-F46.k42,-eAlloc_d,-eStore_f,hr,hlt]
  exact⟨A1 _ (fun _ _=>by simp),A2 _ (fun _ _=>by simp)⟩
theorem stmt_ok(hL:LOK L):∀kk,kk<=32->StmtOK L en kk:=by
 intro kk
 induction kk with
 |zero=>intro hk;exact stmt_of hL hk (body_of hL fun k' he=>by omega)
 |succ kk ih=>intro hk;exact stmt_of hL hk (body_of hL fun k' he=>by cases he;exact ih (by omega))
end
end
section
open Go.Ab
theorem runS_all(p:Int->Bool)(s:ByteArray):∀(n i:Nat),s.size-i=n->∀j,i<=j->j<runS p s i->p (byteAt s j)=true:=by
 intro n
 induction n with
 |zero=>intro i h j h1 h2;rw[runS,dif_neg (by omega)]at h2;omega
 |succ n ih=>
  intro i h j h1 h2
  have hi:i<s.size:=by omega
  rw[runS,dif_pos hi]at h2
  split at h2
  ·rename_i hp
   by_cases e:i=j
   ·subst e;simpa[byteAt,hi] using hp
   ·exact ih (i+1) (by omega) j (by omega) h2
  ·omega
theorem extract_mem{s:ByteArray}{a b:Nat}{c:UInt8}(h:c∈(s.extract a b).data.toList):∃j,a<=j/\j<b/\j<s.size/\byteAt s j=c.toNat:=by
 rw[ByteArray.data_extract,Array.toList_extract,List.extract_eq_take_drop]at h
 obtain⟨k,hk,rfl⟩:=List.mem_iff_getElem.1 h
 simp only[yA,List.length_drop,Array.length_toList]at hk
 refine⟨a+k,by omega,by omega,by have:s.data.size=s.size:=rfl;omega,?_⟩
 have hs:a+k<s.size:=by have:s.data.size=s.size:=rfl;omega
 simp[byteAt,hs]
 rfl
theorem extract_size(s:ByteArray)(a b:Nat):(s.extract a b).size<=s.size:=by rw[ByteArray.size_extract];omega
def TokOK(s:ByteArray)(t:Tok):Prop:=t.text.size<=s.size/\(t.kind=2->∀c∈t.text.data.toList,48<=c.toNat/\c.toNat<=57)
theorem lexAt_ok{s:ByteArray}{i j:Nat}{t:Tok}(h:lexAt s i (byteAt s i)=.tok t j):TokOK s t:=by
 unfold lexAt at h
 split at h
 ·cases h
 split at h
 ·cases h
 split at h
 ·cases h;exact⟨extract_size _ _ _,fun h=>by cases h⟩
 split at h
 ·split at h
  ·cases h
  ·cases h
   refine⟨extract_size _ _ _,fun _ c hc=>?_⟩
   obtain⟨k,h1,h2,h3,h4⟩:=extract_mem hc
   have:=runS_all isDigit s _ i rfl k h1 h2
   rw[h4]at this
   simp[isDigit]at this
   omega
 split at h
 ·cases h;exact⟨extract_size _ _ _,fun h=>by cases h⟩
 ·cases h
theorem scanS_ok{s:ByteArray}:∀(n i:Nat)(acc l:List Tok),s.size-i=n->scanS s i acc=.ok l->acc.length<=i->i<=s.size->(∀t∈acc,TokOK s t)->l.length<=s.size/\∀t∈l,TokOK s t:=by
 intro n
 induction n using Nat.strongRecOn with
 |_ n ih=>
  intro i acc l hn h ha hi hok
  rw[scanS]at h
  split at h
  ·rename_i hlt
   split at h
   ·split at h
    ·rename_i j _ hj
     by_cases hjs:j<=s.size
     ·exact ih (s.size-j) (by omega) j acc l rfl h (by omega) hjs hok
     ·rw[scanS,dif_neg (by omega)]at h;cases h;exact⟨by omega,hok⟩
    ·cases h
   ·rename_i t j hl
    have hok':∀t'∈acc++[t],TokOK s t':=by
     intro t' ht'
     rcases List.mem_append.1 ht' with ht' |ht'
     ·exact hok t' ht'
     ·simp only[List.mem_singleton]at ht';subst ht';exact lexAt_ok hl
    split at h
    ·rename_i hj
     by_cases hjs:j<=s.size
     ·exact ih (s.size-j) (by omega) j _ l rfl h (by simp;omega) hjs hok'
     ·rw[scanS,dif_neg (by omega)]at h;cases h;exact⟨by simp;omega,hok'⟩
    ·cases h
   ·cases h
  ·cases h;exact⟨by omega,hok⟩
theorem scan_LOK{s:ByteArray}{l:List Tok}(hs:s.size<=65536)(h:scanS s 0 []=.ok l):LOK l:=by
 obtain⟨h1,h2⟩:=scanS_ok _ 0 [] l rfl h (by simp) (by omega) (by simp)
 exact⟨by omega,fun t ht=>(h2 t ht).2,fun t ht=>zR (h2 t ht).1 hs⟩
def parseP(s:ByteArray):Res (List Row):=
 if 65536<s.size then .error (0,1)
 else match scanS s 0 [] with
 |.error p=>.error (p,90)
 |.ok L=>topP L s.size (L.length+1) 0 []
end
section
open Go.Ab
theorem if20:isIfaceT Try.prog 20=some true:=by kernel_rfl
theorem F45_code:F45.code=.seq (Code.at F45.code [0]) (Code.at F45.code [1]):=by kernel_rfl
theorem F45_r:Code.at F45.code [0]=.region 0 (regOps (Code.at F45.code [0])) false:=by kernel_rfl
theorem F45_o:∃o0 o1,regOps (Code.at F45.code [0])=#[o0,o1]/\o0.op=.call { callee:=.builtin .recover,args:=#[],argTypes:=#[] }/\o0.dst=some 6/\o0.guard=none/\o1.op=.assign (.tmp 6)/\o1.dst=some 3/\o1.guard=none:=by
 refine⟨_,_,rfl,rfl,rfl,rfl,rfl,rfl,rfl⟩
theorem F45_callsD{args:Array Value}{u u':FrameMode}{w:World}{R:Ending->FrameMode->World->Prop}(v:Value)
  (hrec:∀(c₀:Frame)(cs:List Frame),c₀.mode=u->(recoverD (c₀::cs)=none/\v=.nilIface/\u'=u)\/recoverD (c₀::cs)=some (v,{ c₀ with mode:=u' }::cs))
  (h:(Code.at F45.code [1]).wp Try.prog (fun e a w=>(e=.normal\/e=.ret)/\a.defers=[]/\R (.returned (.tuple #[])) u' w) (Act.put (Act.put { tmps:=args++Array.replicate (21-args.size) undef,defers:=[] } (some 6) v) (some 3) v) w) :
  CallsD Try.prog 45 args u w R:=by
 refine callsD_of_wpS (c:=F45.code) Try.func45 rfl ?_
 intro c₀ cs hu
 rw[F45_code]
 refine wpS_seq ?_
 rw[F45_r]
 refine wpS_region ?_
 obtain⟨o0,o1,e1,a1,a2,a3,b1,b2,b3⟩:=F45_o
 rw[e1]
 have fin:∀cs':List Frame,cs'={ c₀ with mode:=u' }::cs->(Code.at F45.code [1]).wpS Try.prog (bodyPostS Try.prog Try.f45 c₀ cs R) (Act.put (Act.put { tmps:=args++Array.replicate (Try.f45.ntmps-args.size) undef,defers:=[] } (some 6) v) (some 3) v) cs' w:=by
  intro cs' hcs
  refine wpS_of_wp (wp_mono h ?_)
  rintro e a w' ⟨he,hd,hR⟩
  have hres:(results Try.f45 a.tmps).run Try.prog w'=.ok (.tuple #[]) w':=by
   have:Try.f45.results=#[]:=rfl
   simp[results,this]
  rcases he with rfl |rfl
  ·exact⟨hd,u',hcs,_,hres,hR⟩
  ·exact⟨hd,u',hcs,_,hres,hR⟩
 have w0:∀y,Region.wanted o0 y=true:=fun y=>by unfold Region.wanted;rw[a3]
 have w1:∀y,Region.wanted o1 y=true:=fun y=>by unfold Region.wanted;rw[b3]
 have x0:∀(ev:Operand->Value)(w':World),(execOp ev o0).run Try.prog w'=.ok .recover w':=fun ev w'=>by
  obtain⟨d,op,t,p,af,gd⟩:=o0
  simp only at a1;subst a1
  simp[execOp,resolve,invoke,builtin]
 have x1:∀(ev:Operand->Value)(w':World),(execOp ev o1).run Try.prog w'=.ok (.value (ev (.tmp 6))) w':=fun ev w'=>by
  obtain⟨d,op,t,p,af,gd⟩:=o1
  simp only at b1;subst b1
  simp[execOp]
 have hsz:6<(args++Array.replicate (Try.f45.ntmps-args.size) undef).size:=by
  have:Try.f45.ntmps=21:=rfl
  simp;omega
 have step:∀cs':List Frame,cs'={ c₀ with mode:=u' }::cs->wpOpsS Try.prog #[o0,o1] (Exit.thenS ((Code.at F45.code [1]).wpS Try.prog (bodyPostS Try.prog Try.f45 c₀ cs R)) (bodyPostS Try.prog Try.f45 c₀ cs R)) [1] (Act.put { tmps:=args++Array.replicate (Try.f45.ntmps-args.size) undef,defers:=[] } (some 6) v) cs' w:=by
  intro cs' hcs
  simp only[wpOpsS,List.getElem?_toArray,zB,zA,w1,zV,x1,Oper.upon_value,b2]
  have e6:(Act.put { tmps:=args++Array.replicate (Try.f45.ntmps-args.size) undef,defers:=[] } (some 6) v).eval (.tmp 6)=v:=by
   show((args++Array.replicate (Try.f45.ntmps-args.size) undef).setIfInBounds 6 v).getD 6 undef=v
   rw[Array.getD_eq_getD_getElem?,Array.getElem?_setIfInBounds_self_of_lt hsz];rfl
  rw[e6]
  exact fin cs' hcs
 show wpOpsS Try.prog #[o0,o1] _ [0,1] _ _ _
 rw[wpOpsS]
 simp only[List.getElem?_toArray,zA,w0,zV,x0,a2]
 rcases hrec c₀ cs hu with⟨h1,rfl,rfl⟩ |h1
 ·rw[h1]
  exact step _ (by subst hu;rfl)
 ·rw[h1]
  exact step _ rfl
section
variable {h:AH} {M:Nat->Prop} {rc ac ec:Nat}
theorem F45_any{E:Env}{w:World}{cargs:List Value}{u u':FrameMode}{v:Value}{av:AV}{R:AH->Prop}(hr:Rel E h w)(ha:VRs E [.ptr rc 0,.ptr ac 0,.ptr ec 0] cargs)(hv:VR E av v)
  (hrec:∀(c₀:Frame)(cs:List Frame),c₀.mode=u->(recoverD (c₀::cs)=none/\v=.nilIface/\u'=u)\/recoverD (c₀::cs)=some (v,{ c₀ with mode:=u' }::cs))
  (hp:F45.k6 (fun id=>M id\/h.next<=id) (fun x s h'=>(x=.normal\/x=.ret)/\s.ds=[]/\R h') noPan ⟨upd (upd (s0 [.ptr rc 0,.ptr ac 0,.ptr ec 0]).tm 6 av) 3 av,[]⟩ h) :
  CallsD Try.prog 45 cargs.toArray u w fun e u2 w'=>(∃r,e=.returned r)/\u2=u'/\∃E' h',Step E h M w E' h' w'/\R h':=by
 refine F45_callsD v hrec ?_
 have ar:AR E 21 ⟨upd (upd (s0 [.ptr rc 0,.ptr ac 0,.ptr ec 0]).tm 6 av) 3 av,[]⟩ (Act.put (Act.put { tmps:=cargs.toArray++Array.replicate (21-cargs.toArray.size) undef,defers:=[] } (some 6) v) (some 3) v):=
  ((s0_ok ha (n:=21) (by simp)).put (some 6) hv).put (some 3) hv
 refine wp_mono (aw_ok (W:=fun id=>M id\/h.next<=id) (pl:=F45.pl) Try.mixed (Code.at F45.code [1]) (fun x s h'=>(x=.normal\/x=.ret)/\s.ds=[]/\R h') noPan _ h F45.ok ?_ E w _ hr ar) ?_
 ·exact Eq.mpr (F45.k6_ok _ _ _ _ _) hp
 rintro e a' w' (⟨x,E',h',s',a1,a2,a3,a4,a5,a6⟩ |⟨_,_,_,_,_,_,_,_,_,a5⟩)
 ·have hd:a'.defers=[]:=by
   have:=a3.ds
   rw[a5]at this
   generalize a'.defers=l at this
   cases this;rfl
  refine⟨?_,hd,⟨_,rfl⟩,rfl,E',h',?_,a6⟩
  ·rcases a4 with rfl |rfl
   ·cases e<;>first |exact .inl rfl |exact a1.elim
   ·cases e<;>first |exact .inr rfl |exact a1.elim
  ·exact(Step.refl hr).trans hr a2 (fun id hlt hm=>by
    rcases hm with hm |hm
    ·exact .inl hm
    ·exact .inr hm)
 ·exact a5.elim
theorem F45_ret{R:AH->Prop}(hR:R h):ADRet Try.prog 45 [.ptr rc 0,.ptr ac 0,.ptr ec 0] h M R:=by
 intro E w cargs hr ha
 refine F45_any (v:=.nilIface) (av:=.sc .nilIface) hr ha (.sc _) (fun c₀ cs hu=>.inl ⟨by simp[recoverD,hu],rfl,rfl⟩) ?_
 have e3:(Go.Ab.upd (Go.Ab.upd (s0 [.ptr rc 0,.ptr ac 0,.ptr ec 0]).tm 6 (.sc .nilIface)) 3 (.sc .nilIface)) 3=.sc .nilIface:=by simp
 simp only[F45.k6,F45.t6,e3]
 refine⟨rfl,if20,?_⟩
 simp only[F45.k5,F45.t5]
 have e8:∀tm:Nat->AV,puts tm [(7,.sc .nilIface),(8,.sc (.bool false))] 8=.sc (.bool false):=fun tm=>by simp
 rw[e8]
 simp only[aIf_b,zE,zC,zH,zD]
 exact⟨.inl trivial,hR⟩
theorem F45_pan{R:AH->Prop}{e:Int×Int}{x y z:AV}(hM:M rc/\M ac/\M ec)(h1:h.obj rc=some (mkO [x] 1 22))(h2:h.obj ac=some (mkO [y] 1 3))(h3:h.obj ec=some (mkO [z] 1 30))
  (hR:∀h',h'.obj rc=some (mkO [nilS] 1 22)->h'.obj ac=some (mkO [.sc (.int .i64 e.1)] 1 3)->h'.obj ec=some (mkO [.sc (.int .i64 e.2)] 1 30)->Fr h h' (fun id=>id=rc\/id=ac\/id=ec)->R h'):ADPan Try.prog 45 [.ptr rc 0,.ptr ac 0,.ptr ec 0] (faultV e) h M R:=by
 intro E w cargs u hr ha hv
 have n1:=h.lt _ _ h1
 have n2:=h.lt _ _ h2
 have n3:=h.lt _ _ h3
 have d12:=obj_ne h1 h2 (show(22:Nat)≠3 by decide)
 have d13:=obj_ne h1 h3 (show(22:Nat)≠30 by decide)
 have d23:=obj_ne h2 h3 (show(3:Nat)≠30 by decide)
 refine F45_any (v:=u) (av:=faultV e) (u':=.panicking [{ v:=u,recovered:=true }]) hr ha hv (fun c₀ cs hu=>.inr (by simp[recoverD,hu])) ?_
 have e0:(Go.Ab.upd (Go.Ab.upd (s0 [.ptr rc 0,.ptr ac 0,.ptr ec 0]).tm 6 (faultV e)) 3 (faultV e)) 0=.ptr rc 0:=by simp
 have e1:(Go.Ab.upd (Go.Ab.upd (s0 [.ptr rc 0,.ptr ac 0,.ptr ec 0]).tm 6 (faultV e)) 3 (faultV e)) 1=.ptr ac 0:=by simp
 have e2:(Go.Ab.upd (Go.Ab.upd (s0 [.ptr rc 0,.ptr ac 0,.ptr ec 0]).tm 6 (faultV e)) 3 (faultV e)) 2=.ptr ec 0:=by simp
 have e3:(Go.Ab.upd (Go.Ab.upd (s0 [.ptr rc 0,.ptr ac 0,.ptr ec 0]).tm 6 (faultV e)) 3 (faultV e)) 3=faultV e:=by simp
 generalize Go.Ab.upd (Go.Ab.upd (s0 [.ptr rc 0,.ptr ac 0,.ptr ec 0]).tm 6 (faultV e)) 3 (faultV e)=tm0 at *
 simp only[F45.k6,F45.t6,e3]
 refine⟨if20,?_⟩
 show F45.k5 _ _ _ ⟨puts tm0 [(7,faultV e),(8,.sc (.bool true))],[]⟩ h
 have g0:puts tm0 [(7,faultV e),(8,.sc (.bool true))] 0=.ptr rc 0:=by simp[e0]
 have g1:puts tm0 [(7,faultV e),(8,.sc (.bool true))] 1=.ptr ac 0:=by simp[e1]
 have g2:puts tm0 [(7,faultV e),(8,.sc (.bool true))] 2=.ptr ec 0:=by simp[e2]
 have g3:puts tm0 [(7,faultV e),(8,.sc (.bool true))] 3=faultV e:=by simp[e3]
 have g8:puts tm0 [(7,faultV e),(8,.sc (.bool true))] 8=.sc (.bool true):=by simp
 generalize puts tm0 [(7,faultV e),(8,.sc (.bool true))]=tm1 at *
 simp only[F45.k5,F45.t5,g8,aIf_b,zF,zC,zD,zI]
 simp only[F45.k4,F45.t4,g3]
 simp[-F45.k1,faultV,AH.alloc_obj]
 have f4:=((Fr.refl (h:=h) (S:=fun _=>False)).alloc (mkO [.sc (.int .i64 0),.sc (.int .i64 0)] 2 101)).put (id:=h.next) (off:=0) (cs:=[.sc (.int .i64 e.1),.sc (.int .i64 e.2)]) (.inr (zU _))
 have o4:((h.alloc (mkO [.sc (.int .i64 0),.sc (.int .i64 0)] 2 101)).put h.next 0 [.sc (.int .i64 e.1),.sc (.int .i64 e.2)]).obj h.next=some (mkO [.sc (.int .i64 e.1),.sc (.int .i64 e.2)] 2 101):=by simp[AH.put_obj,AH.alloc_obj]
 have p1:=f4.obj h1 fun h=>h
 have p2:=f4.obj h2 fun h=>h
 have p3:=f4.obj h3 fun h=>h
 generalize (h.alloc (mkO [.sc (.int .i64 0),.sc (.int .i64 0)] 2 101)).put h.next 0 [.sc (.int .i64 e.1),.sc (.int .i64 e.2)]=h4 at *
 simp only[F45.k1,F45.t1]
 refine⟨fun _=>h.next,by simp[o4],?_⟩
 have q1:rc≠h.next:=by omega
 have q2:ac≠h.next:=by omega
 simp[g0,g1,g2,o4,p1,p2,p3,AH.put_obj,hM.1,hM.2.1,hM.2.2,q1,q2,d12,d13,d23,Ne.symm d12,Ne.symm d13,Ne.symm d23]
 refine⟨⟨.inl hM.1,fun i _=>q1⟩,⟨.inl hM.2.1,fun i _=>q2⟩,?_⟩
 refine hR _ ?_ ?_ ?_ ?_
 ·simp[AH.put_obj,p1,d12,d13]
 ·simp[AH.put_obj,p2,d23,Ne.symm d12]
 ·simp[AH.put_obj,p3,Ne.symm d13,Ne.symm d23]
 ·exact(((f4.mono fun _ h=>h.elim).put (.inl (.inl rfl))).put (.inl (.inr (.inl rfl)))).put (.inl (.inr (.inr rfl)))
end
end
section
open Go.Ab
section
variable (W:Nat->Prop) (Q:Post) (QP:PPost) (s:St) (h:AH)
theorem F24_A2(C:KT):aw Try.prog 36 W F24.pl (Code.at F24.code [1,1,0]) (thenQ C Q) QP s h=F24.t11 s h (fun s h=>F24.t10 s h C (fun s h=>F24.t9 W s h C (fun s h=>F24.t8 Q s h C))) C:=by
 have o5:∀s h,aw Try.prog 36 W F24.pl (Code.at F24.code [1,1,0,1,0]) (thenQ C Q) QP s h=F24.t9 W s h C (fun s h=>F24.t8 Q s h C):=fun s h=>
  nd_seq (a:=(Code.at F24.code [1,1,0,1,0,0])) (b:=(Code.at F24.code [1,1,0,1,0,1])) (by kernel_rfl) (fun s h=>F24.k8_a W Q QP s h C) (F24.k9_a W Q QP s h C _)
 have k10:∀s h,aw Try.prog 36 W F24.pl (Code.at F24.code [1,1,0,1]) (thenQ C Q) QP s h=F24.t10 s h C (fun s h=>F24.t9 W s h C (fun s h=>F24.t8 Q s h C)):=fun s h=>
  nd_cond (o:=.tmp 14) (a:=(Code.at F24.code [1,1,0,1,0])) (b:=(Code.at F24.code [1,1,0,1,1])) (by kernel_rfl) (o5 s h) rfl (F24.k10_a W Q QP s h C (fun s h=>F24.t9 W s h C (fun s h=>F24.t8 Q s h C)))
 exact nd_seq (a:=(Code.at F24.code [1,1,0,0])) (b:=(Code.at F24.code [1,1,0,1])) (by kernel_rfl) k10 (F24.k11_a W Q QP s h _ C)
theorem F24_A6(C:KT):aw Try.prog 36 W F24.pl (Code.at F24.code [1,1,1,1,1,0,0,0,0]) (thenQ C Q) QP s h=F24.t4 s h C (fun s h=>F24.t3 Q s h C):=
 nd_seq (a:=(Code.at F24.code [1,1,1,1,1,0,0,0,0,0])) (b:=(Code.at F24.code [1,1,1,1,1,0,0,0,0,1])) (by kernel_rfl)
  (fun s h=>nd_cond (o:=.tmp 29) (a:=(Code.at F24.code [1,1,1,1,1,0,0,0,0,1,0])) (b:=(Code.at F24.code [1,1,1,1,1,0,0,0,0,1,1])) (by kernel_rfl) rfl rfl (F24.k3_a W Q QP s h C)) (F24.k4_a W Q QP s h C _)
theorem F24_R7(K:KT)(KP:St->AV->AH->Prop):evS Try.prog 36 W (regOps (Code.at F24.code [1,1,1,1,1,0,0,0,1,0])) (List.range (regOps (Code.at F24.code [1,1,1,1,1,0,0,0,1,0])).size) K KP s h =
  (aCall Try.prog W 46 [(s.tm 6),(.sc (.int .i64 0))] h (fun t8 h9=>K ⟨puts s.tm [(30,(s.tm 6)),(31,t8)],s.ds⟩ h9) (KP ⟨puts s.tm [(30,(s.tm 6))],s.ds⟩)):=by kernel_rfl
theorem F24_c0:F24.code=.seq (Code.at F24.code [0]) (Code.at F24.code [1]):=by kernel_rfl
theorem F24_c1:Code.at F24.code [1]=.seq (Code.at F24.code [1,0]) (Code.at F24.code [1,1]):=by kernel_rfl
theorem F24_c2:Code.at F24.code [1,1]=.seq (Code.at F24.code [1,1,0]) (Code.at F24.code [1,1,1]):=by kernel_rfl
theorem F24_c3:Code.at F24.code [1,1,1]=.seq (Code.at F24.code [1,1,1,0]) (Code.at F24.code [1,1,1,1]):=by kernel_rfl
theorem F24_c4:Code.at F24.code [1,1,1,1]=.seq (Code.at F24.code [1,1,1,1,0]) (Code.at F24.code [1,1,1,1,1]):=by kernel_rfl
theorem F24_c5:Code.at F24.code [1,1,1,1,1]=.seq (Code.at F24.code [1,1,1,1,1,0]) (Code.at F24.code [1,1,1,1,1,1]):=by kernel_rfl
theorem F24_c6:Code.at F24.code [1,1,1,1,1,0]=.block 0 (Code.at F24.code [1,1,1,1,1,0,0]):=by kernel_rfl
theorem F24_c7:Code.at F24.code [1,1,1,1,1,0,0]=.loop F24.c1:=by kernel_rfl
theorem F24_c8:F24.c1=.seq (Code.at F24.code [1,1,1,1,1,0,0,0,0]) (Code.at F24.code [1,1,1,1,1,0,0,0,1]):=by kernel_rfl
theorem F24_c9:Code.at F24.code [1,1,1,1,1,0,0,0,1]=.block 1 (Code.at F24.code [1,1,1,1,1,0,0,0,1,0]):=by kernel_rfl
theorem F24_c10:Code.at F24.code [1,1,1,1,1,0,0,0,1,0]=.region 7 (regOps (Code.at F24.code [1,1,1,1,1,0,0,0,1,0])) false:=by kernel_rfl
end
end
section
open Go.Ab
def ParseR(s:ByteArray)(h:AH)(R:AE->AH->Prop):Prop:=
 Outc (parseP s) (fun rows=>∀x h',RowsAt h' x rows->InS (h.next<=·) x->Fr h h' (fun _=>False)->R (.ret (.tup [x,.sc (.int .i64 0),.sc (.int .i64 0)])) h')
  (fun e=>∀h',Fr h h' (fun _=>False)->R (.ret (.tup [nilS,.sc (.int .i64 e.1),.sc (.int .i64 e.2)])) h')
abbrev o1(x:AV)(ty:TypeId):AO:=mkO [x] 1 ty
structure RC (h:AH) (rc ac ec:Nat) (x y z:AV):Prop where
 r:h.obj rc=some (o1 x 22)
 a:h.obj ac=some (o1 y 3)
 e:h.obj ec=some (o1 z 30)
theorem RC.ne{h:AH}{rc ac ec:Nat}{x y z:AV}(c:RC h rc ac ec x y z):rc≠ac/\rc≠ec/\ac≠ec:=
 ⟨obj_ne c.r c.a (show(22:Nat)≠3 by decide),obj_ne c.r c.e (show(22:Nat)≠30 by decide),obj_ne c.a c.e (show(3:Nat)≠30 by decide)⟩
theorem RC.res{h:AH}{rc ac ec:Nat}{x y z:AV}(c:RC h rc ac ec x y z){s:St}(e2:s.tm 2=.ptr rc 0)(e3:s.tm 3=.ptr ac 0)(e4:s.tm 4=.ptr ec 0){K:List AV->Prop}(hK:K [x,y,z]):aRes Try.prog Try.f24.results.toList s h K:=by
 have:Try.f24.results.toList=[.cell 2 22,.cell 3 3,.cell 4 30]:=rfl
 rw[this]
 have a1:aggOf Try.prog 22=some false:=by kernel_rfl
 have a2:aggOf Try.prog 3=some false:=by kernel_rfl
 have a3:aggOf Try.prog 30=some false:=by kernel_rfl
 simp[aRes,e2,e3,e4,a1,a2,a3,c.r,c.a,c.e]
 exact hK
theorem RC.fr{h h':AH}{rc ac ec:Nat}{x y z:AV}(c:RC h rc ac ec x y z){S:Nat->Prop}(hf:Fr h h' S)(h1:¬S rc)(h2:¬S ac)(h3:¬S ec):RC h' rc ac ec x y z:=⟨hf.obj c.r h1,hf.obj c.a h2,hf.obj c.e h3⟩
section
variable {h:AH} {M:Nat->Prop} {R:AE->AH->Prop} {E:Env} {w:World}
theorem step_back{hr:Rel E h w}{E':Env}{h':AH}{w':World}(hs:Step E h (fun id=>M id\/h.next<=id) w E' h' w'):Step E h M w E' h' w':=(Step.refl hr).trans hr hs fun _ _ hm=>hm
theorem F24_ret(hr:Rel E h w){s:St}{h':AH}{rc ac ec:Nat}{x y z:AV}(hds:s.ds=[⟨.func 45,[.ptr rc 0,.ptr ac 0,.ptr ec 0],[]⟩])(e2:s.tm 2=.ptr rc 0)(e3:s.tm 3=.ptr ac 0)(e4:s.tm 4=.ptr ec 0)(c:RC h' rc ac ec x y z)
  (hR:R (.ret (.tup [x,y,z])) h'):toC 36 (fun id=>M id\/h.next<=id) E h w (bodyPostD Try.prog Try.f24 (RcOf E h M w R)) .ret s h':=by
 intro e E' w' a hx hs ha
 cases e<;>first |exact hx.elim |skip
 exact leave_ret (M':=fun _=>False) hr (step_back (hr:=hr) hs) ha hds rfl (fun _ _ h=>h.elim) (F45_ret (R:=fun h2=>aRes Try.prog Try.f24.results.toList s h2 fun vs=>R (.ret (tupOf vs)) h2) (c.res e2 e3 e4 hR))
theorem F24_ret0(hr:Rel E h w){s:St}{h':AH}{rc ac ec:Nat}{x y z:AV}(hds:s.ds=[])(e2:s.tm 2=.ptr rc 0)(e3:s.tm 3=.ptr ac 0)(e4:s.tm 4=.ptr ec 0)(c:RC h' rc ac ec x y z)
  (hR:R (.ret (.tup [x,y,z])) h'):toC 36 (fun id=>M id\/h.next<=id) E h w (bodyPostD Try.prog Try.f24 (RcOf E h M w R)) .ret s h':=by
 intro e E' w' a hx hs ha
 cases e<;>first |exact hx.elim |skip
 have hd:a.defers=[]:=by
  have:=ha.ds
  rw[hds]at this
  generalize a.defers=l at this
  cases this;rfl
 show Leaves Try.prog Try.f24 a.tmps _ a.defers _ _
 rw[hd]
 exact leave_res (step_back (hr:=hr) hs) ha (c.res e2 e3 e4 hR)
theorem F24_pan(hr:Rel E h w){s:St}{h':AH}{rc ac ec:Nat}{x y z:AV}{f:Int×Int}(hds:s.ds=[⟨.func 45,[.ptr rc 0,.ptr ac 0,.ptr ec 0],[]⟩])(e2:s.tm 2=.ptr rc 0)(e3:s.tm 3=.ptr ac 0)(e4:s.tm 4=.ptr ec 0)(c:RC h' rc ac ec x y z)
  (n1:h.next<=rc) (n2:h.next<=ac) (n3:h.next<=ec) (hf:Fr h h' (fun _=>False)) (hR:∀h2,Fr h h2 (fun _=>False)->R (.ret (.tup [nilS,.sc (.int .i64 f.1),.sc (.int .i64 f.2)])) h2)
  {E':Env} {w':World} {a:Act} {u:Value} (hs:Step E h (fun id=>M id\/h.next<=id) w E' h' w') (ha:AR E' 36 s a) (hu:VR E' (faultV f) u) :
  bodyPostD Try.prog Try.f24 (RcOf E h M w R) (.panic [{ v:=u,recovered:=false }]) a w':=by
 refine leave_pan (M':=fun id=>id=rc\/id=ac\/id=ec) hr (step_back (hr:=hr) hs) ha hds rfl hu (fun id _ hm=>.inr ?_) (F45_pan ⟨.inl rfl,.inr (.inl rfl),.inr (.inr rfl)⟩ c.r c.a c.e ?_)
 ·rcases hm with hm |hm |hm<;>omega
 ·intro h2 a1 a2 a3 f2
  refine RC.res ⟨a1,a2,a3⟩ e2 e3 e4 (hR h2 (hf.trans (f2.mono fun id hid=>.inr ?_)))
  rcases hid with hm |hm |hm<;>omega
end
end
section
open Go.Ab
theorem RowsAt.cell{h:AH}{x:AV}{rows:List Row}(hr:RowsAt h x rows):avCells x=some [x]/\oneA x=true:=by
 obtain⟨l,h1,_,_⟩:=hr
 rcases h1 with⟨rfl,_⟩ |⟨id,rfl,_⟩<;>exact⟨rfl,rfl⟩
abbrev D8(rc ac ec:Nat):List ADef:=[⟨.func 45,[.ptr rc 0,.ptr ac 0,.ptr ec 0],[]⟩]
structure T8 (s:St) (rc ac ec r:Nat) (tk:AV):Prop where
 ds:s.ds=D8 rc ac ec
 e2:s.tm 2=.ptr rc 0
 e3:s.tm 3=.ptr ac 0
 e4:s.tm 4=.ptr ec 0
 e5:s.tm 5=tk
 e6:s.tm 6=.ptr r 0
theorem T8.puts{s:St}{rc ac ec r:Nat}{tk:AV}(t:T8 s rc ac ec r tk)(l:List (Nat×AV))(hl:∀x∈l,6<x.1):T8 ⟨puts s.tm l,s.ds⟩ rc ac ec r tk:=by
 have key:∀(l:List (Nat×AV))(tm:Nat->AV)(i:Nat),i<=6->(∀x∈l,6<x.1)->Go.Ab.puts tm l i=tm i:=by
  intro l
  induction l with
  |nil=>intro tm i _ _;rfl
  |cons x l ih=>
   intro tm i hi hl
   have hx:=hl x (by simp)
   show Go.Ab.puts (Go.Ab.upd tm x.1 x.2) l i=tm i
   rw[ih _ i hi (fun y hy=>hl y (by simp[hy])),upd_ne (by omega)]
 exact⟨t.ds,(key l _ _ (by omega) hl).trans t.e2,(key l _ _ (by omega) hl).trans t.e3,(key l _ _ (by omega) hl).trans t.e4,(key l _ _ (by omega) hl).trans t.e5,(key l _ _ (by omega) hl).trans t.e6⟩
section
variable {h:AH} {M:Nat->Prop} {R:AE->AH->Prop} {E:Env} {w:World}
theorem F24_end(hr:Rel E h w){s:St}{h':AH}{rc ac ec r:Nat}{tk x y z rv c0 c1 c2:AV}{rows:List Row}(t:T8 s rc ac ec r tk)(c:RC h' rc ac ec x y z)(n1:h.next<=rc)(n2:h.next<=ac)(n3:h.next<=ec)(hro:h'.obj r=some (mkO [c0,c1,c2,rv] 4 105))(hrows:RowsAt h' rv rows)(hf:Fr h h' (fun _=>False))
  (hR:∀h2,RowsAt h2 rv rows->Fr h h2 (fun _=>False)->R (.ret (.tup [rv,.sc (.int .i64 0),.sc (.int .i64 0)])) h2) :
  TC Try.prog 36 (fun id=>M id\/h.next<=id) E h w (Code.at F24.code [1,1,1,1,1,1]) (bodyPostD Try.prog Try.f24 (RcOf E h M w R)) s h':=by
 refine TC_of Try.mixed hr (pl:=F24.pl) (by kernel_rfl) ?_
 rw[F24.k1_ok]
 obtain⟨d12,d13,d23⟩:=c.ne
 simp only[F24.k1,F24.t1,t.e6,t.e2,t.e3,t.e4,pNil_ptr,pFld_ptr,lLd_f,hro,ldk_mk,zG,zB,zA,cellK_some,eStore_f,c.r,hrows.cell.1,stk_mk]
 refine⟨⟨.inr n1,by rw[List.all_cons,hrows.cell.2];rfl,rfl,by simp⟩,?_⟩
 have ca:=c.a
 have ce:=c.e
 have cr:=c.r
 simp only[AH.put_obj,d12,d13,d23,Ne.symm d12,Ne.symm d13,Ne.symm d23,if_false,ca,ce,avC_int,stk_mk]
 refine⟨⟨.inr n2,rfl,rfl,by simp⟩,⟨.inr n3,rfl,rfl,by simp⟩,?_⟩
 have f3:Fr h' (((h'.put rc 0 [rv]).put ac 0 [.sc (.int .i64 0)]).put ec 0 [.sc (.int .i64 0)]) (fun id=>id=rc\/id=ac\/id=ec):=((Fr.refl.put (.inl (.inl rfl))).put (.inl (.inr (.inl rfl)))).put (.inl (.inr (.inr rfl)))
 have rw3:RowsAt (((h'.put rc 0 [rv]).put ac 0 [.sc (.int .i64 0)]).put ec 0 [.sc (.int .i64 0)]) rv rows:=by
  refine hrows.fr f3 (fun id he hid=>?_) (fun id o ho ht hid=>?_)
  ·obtain⟨_,_,o,ho,ht⟩:=hrows.id he
   rcases hid with h1 |h1 |h1
   ·exact obj_ne ho cr (by rw[ht];show(42:Nat)≠22;decide) h1
   ·exact obj_ne ho ca (by rw[ht];show(42:Nat)≠3;decide) h1
   ·exact obj_ne ho ce (by rw[ht];show(42:Nat)≠30;decide) h1
  ·rcases hid with h1 |h1 |h1
   ·exact obj_ne ho cr (by rw[ht];show(44:Nat)≠22;decide) h1
   ·exact obj_ne ho ca (by rw[ht];show(44:Nat)≠3;decide) h1
   ·exact obj_ne ho ce (by rw[ht];show(44:Nat)≠30;decide) h1
 have t3:=t.puts [(32,.ptr r 0),(33,.ptr r 0),(34,.ptr r 3),(35,rv)] (by simp)
 refine F24_ret (x:=rv) (y:=.sc (.int .i64 0)) (z:=.sc (.int .i64 0)) hr t3.ds t3.e2 t3.e3 t3.e4 ⟨?_,?_,?_⟩ (hR _ rw3 (hf.trans (f3.mono fun id hid=>.inr ?_)))
 ·simp[AH.put_obj,cr,d12,d13]
 ·simp[AH.put_obj,ca,d23,Ne.symm d12]
 ·simp[AH.put_obj,ce,Ne.symm d13,Ne.symm d23]
 ·rcases hid with h1 |h1 |h1<;>omega
theorem F24_loop{L:List Tok}{en:Int}(hr:Rel E h w)(hL:LOK L){s:St}{h1:AH}{rc ac ec r tk:Nat}(t:T8 s rc ac ec r (.sl tk 0 L.length))(c:RC h1 rc ac ec nilS (.sc (.int .i64 0)) (.sc (.int .i64 0)))(n1:h.next<=rc)(n2:h.next<=ac)(n3:h.next<=ec)(n4:h.next<=r)
  (rs:RS h1 r tk L en 0 nilS []) (hf:Fr h h1 (fun _=>False))
  (hR:Outc (topP L en (L.length+1) 0 []) (fun rows=>∀x h',RowsAt h' x rows->InS (h.next<=·) x->Fr h h' (fun _=>False)->R (.ret (.tup [x,.sc (.int .i64 0),.sc (.int .i64 0)])) h')
  (fun e=>∀h',Fr h h' (fun _=>False)->R (.ret (.tup [nilS,.sc (.int .i64 e.1),.sc (.int .i64 e.2)])) h')) :
  TC Try.prog 36 (fun id=>M id\/h.next<=id) E h w (Code.at F24.code [1,1,1,1,1]) (bodyPostD Try.prog Try.f24 (RcOf E h M w R)) s h1:=by
 rw[F24_c5]
 refine TC_seq ?_
 refine TC_block F24_c6 ?_
 generalize hX:topP L en (L.length+1) 0 []=X at hR
 have hL0:=hL.len
 refine TC_loop (ι:=Nat×Nat×List Row×AV) F24_c7 (fun x s' h'=>T8 s' rc ac ec r (.sl tk 0 L.length)/\RC h' rc ac ec nilS (.sc (.int .i64 0)) (.sc (.int .i64 0))/\RS h' r tk L en x.2.1 x.2.2.2 x.2.2.1/\Fr h h' (fun _=>False)/\InS (h.next<=·) x.2.2.2 /\
  x.2.1<=L.length/\L.length<x.2.1+x.1/\x.2.2.1.length<=x.2.1/\topP L en x.1 x.2.1 x.2.2.1=X) (fun x=>x.1) (L.length+1,0,[],nilS) ?_ ?_
 ·exact⟨t,c,rs,hf,(fun _ _ _ he=>by cases he),Nat.zero_le _,by simp,by simp,hX⟩
 rintro⟨n,p,acc,rv⟩ s' h' ⟨t',c',rs',hf',in',hp,hpn,hacc,hX'⟩
 simp only at rs' in' hp hpn hacc hX'
 cases n with
 |zero=>omega
 |succ n=>
  simp only[topP]at hX'
  refine TC_then Try.mixed hr (pl:=F24.pl) F24_c8 (by kernel_rfl) ?_
  rw[F24_A6]
  have hl:pLen (.sl tk 0 L.length)=fun K=>K (.sc (.int .i64 L.length)):=rfl
  simp only[F24.t4,t'.e6,t'.e5,pNil_ptr,pFld_ptr,lLd_f,rs'.r,ldk_mk,zG,zB,zA,cellK_some,strArg_sl,zH,pLen_sl,pBin_lss]
  by_cases hlt:p<L.length
  ·rw[zX hlt]at hX'
   have hd:decide ((p:Int)<(L.length:Nat))=true:=by simpa using hlt
   rw[hd]
   have t2:=t'.puts [(23,.ptr r 0),(24,.ptr r 0),(25,.ptr r 1),(26,.sc (.int .i64 p)),(27,.sl tk 0 L.length),(28,.sc (.int .i64 L.length)),(29,.sc (.bool true))] (by simp)
   have e29:Go.Ab.puts s'.tm [(23,.ptr r 0),(24,.ptr r 0),(25,.ptr r 1),(26,.sc (.int .i64 p)),(27,.sl tk 0 L.length),(28,.sc (.int .i64 L.length)),(29,.sc (.bool true))] 29=.sc (.bool true):=by simp
   generalize Go.Ab.puts s'.tm [(23,.ptr r 0),(24,.ptr r 0),(25,.ptr r 1),(26,.sc (.int .i64 p)),(27,.sl tk 0 L.length),(28,.sc (.int .i64 L.length)),(29,.sc (.bool true))]=tm2 at *
   simp only[F24.t3,e29,aIf_b,zF,zC,zD,zI]
   refine TC_block F24_c9 ?_
   refine TC_region hr F24_c10 (K:=fun s2 h2=>T8 s2 rc ac ec r (.sl tk 0 L.length)/\RC h2 rc ac ec nilS (.sc (.int .i64 0)) (.sc (.int .i64 0))/\∃p2 new rv2,stmtP L en 32 p=.ok (p2,new)/\RS h2 r tk L en p2 rv2 (acc++new)/\Fr h h2 (fun _=>False)/\InS (h.next<=·) rv2)
    (KP:=fun s2 v h2=>T8 s2 rc ac ec r (.sl tk 0 L.length)/\RC h2 rc ac ec nilS (.sc (.int .i64 0)) (.sc (.int .i64 0))/\Fr h h2 (fun _=>False)/\∃e,stmtP L en 32 p=.error e/\v=faultV e) ?_ ?_ ?_
   ·rintro s2 h2 E2 w2 a2 ⟨t3,c3,p2,new,rv2,g1,g2,g3,g4⟩ hs2 ha2
    obtain⟨b1,b2,b3⟩:=stmtP_ok 32 p p2 new g1
    rw[g1]at hX'
    exact⟨(n,p2,acc++new,rv2),s2,h2,E2,by simp,⟨t3,c3,g2,g3,g4,b2,by simp only;omega,by simp;omega,hX'⟩,hs2,ha2⟩
   ·rintro s2 v h2 E2 w2 a2 u ⟨t3,c3,f3,e,g1,rfl⟩ hs2 ha2 hu
    rw[g1]at hX'
    rw[<-hX']at hR
    exact F24_pan hr t3.ds t3.e2 t3.e3 t3.e4 c3 n1 n2 n3 f3 hR hs2 ha2 hu
   ·rw[F24_R7]
    rw[t2.e6]
    have not:∀i o,h'.obj i=some o->o.ty≠105->o.ty≠42->¬SS r rv i:=by
     rintro i o ho h51 h36 (rfl |⟨m,he⟩)
     ·exact obj_ne ho rs'.r h51 rfl
     ·obtain⟨_,_,o',ho',ht⟩:=rs'.rows.id he
      rw[ho]at ho';cases ho';exact h36 ht
    refine⟨SS r rv,fun id hid _=>.inr ?_,stmt_ok (en:=en) hL 32 (by omega) (rv:=rv) (rows:=acc) (p:=p) (by omega) (fun _ h=>h) rs' hp hacc ?_⟩
    ·rcases hid with hid |⟨m,hid⟩
     ·omega
     ·exact in' id 0 m hid
    ·have frr:∀h2,Fr h' h2 (SS r rv)->Fr h h2 (fun _=>False):=fun h2 f2=>hf'.trans (f2.mono fun id hid=>.inr (by
      rcases hid with hid |⟨m,hid⟩
      ·omega
      ·exact in' id 0 m hid))
     have rcc:∀h2,Fr h' h2 (SS r rv)->RC h2 rc ac ec nilS (.sc (.int .i64 0)) (.sc (.int .i64 0)):=fun h2 f2=>c'.fr f2 (not _ _ c'.r (by show(22:Nat)≠105;decide) (by show(22:Nat)≠42;decide)) (not _ _ c'.a (by show(3:Nat)≠105;decide) (by show(3:Nat)≠42;decide)) (not _ _ c'.e (by show(30:Nat)≠105;decide) (by show(30:Nat)≠42;decide))
     cases hst:stmtP L en 32 p with
     |error e=>
      intro h2 f2
      exact⟨t2.puts [(30,.ptr r 0)] (by simp),rcc h2 f2,frr h2 f2,e,rfl,rfl⟩
     |ok x=>
      obtain⟨p2,new⟩:=x
      intro h2 rv2 rs2 f2 i2
      refine⟨t2.puts [(30,.ptr r 0),(31,_)] (by simp),rcc h2 f2,p2,new,rv2,rfl,rs2,frr h2 f2,fun id off m he=>?_⟩
      have h0:=(rs2.hrv he).1
      rcases i2 id off m he with(hid |⟨m2,hid⟩) |hid
      ·omega
      ·exact in' id 0 m2 hid
      ·exact zR hf'.next hid
  ·rw[zW hlt]at hX'
   have hd:decide ((p:Int)<(L.length:Nat))=false:=by simpa using hlt
   rw[hd]
   rw[<-hX']at hR
   have t2:=t'.puts [(23,.ptr r 0),(24,.ptr r 0),(25,.ptr r 1),(26,.sc (.int .i64 p)),(27,.sl tk 0 L.length),(28,.sc (.int .i64 L.length)),(29,.sc (.bool false))] (by simp)
   have e29:Go.Ab.puts s'.tm [(23,.ptr r 0),(24,.ptr r 0),(25,.ptr r 1),(26,.sc (.int .i64 p)),(27,.sl tk 0 L.length),(28,.sc (.int .i64 L.length)),(29,.sc (.bool false))] 29=.sc (.bool false):=by simp
   generalize Go.Ab.puts s'.tm [(23,.ptr r 0),(24,.ptr r 0),(25,.ptr r 1),(26,.sc (.int .i64 p)),(27,.sl tk 0 L.length),(28,.sc (.int .i64 L.length)),(29,.sc (.bool false))]=tm2 at *
   simp only[F24.t3,e29,aIf_b,zE,zC,zD,zH]
   intro e2 E2 w2 a2 hx hs2 ha2
   cases e2<;>first |exact hx.elim |skip
   cases hx
   exact F24_end (M:=M) hr t2 c' n1 n2 n3 rs'.r rs'.rows hf' (fun h2 r2 f2=>hR rv h2 r2 in' f2) E2 w2 a2 hs2 ha2
end
end
section
open Go.Ab
section
variable {h:AH} {M:Nat->Prop} {R:AE->AH->Prop} {E:Env} {w:World}
theorem F24_loop0{en:Int}(hr:Rel E h w){s:St}{h1:AH}{rc ac ec r:Nat}(t:T8 s rc ac ec r nilS)(c:RC h1 rc ac ec nilS (.sc (.int .i64 0)) (.sc (.int .i64 0)))(n1:h.next<=rc)(n2:h.next<=ac)(n3:h.next<=ec)
  (hro:h1.obj r=some (mkO [nilS,.sc (.int .i64 0),.sc (.int .i64 en),nilS] 4 105)) (hf:Fr h h1 (fun _=>False))
  (hR:∀x h',RowsAt h' x []->InS (h.next<=·) x->Fr h h' (fun _=>False)->R (.ret (.tup [x,.sc (.int .i64 0),.sc (.int .i64 0)])) h') :
  TC Try.prog 36 (fun id=>M id\/h.next<=id) E h w (Code.at F24.code [1,1,1,1,1]) (bodyPostD Try.prog Try.f24 (RcOf E h M w R)) s h1:=by
 rw[F24_c5]
 refine TC_seq ?_
 refine TC_block F24_c6 ?_
 refine TC_loop (ι:=Unit) F24_c7 (fun x s' h'=>s'=s/\h'=h1) (fun _=>0) () ⟨rfl,rfl⟩ ?_
 rintro _ s' h' ⟨e1,e2⟩
 rw[e1,e2]
 clear e1 e2
 refine TC_then Try.mixed hr (pl:=F24.pl) F24_c8 (by kernel_rfl) ?_
 rw[F24_A6]
 simp only[F24.t4,t.e6,t.e5,pNil_ptr,pFld_ptr,lLd_f,hro,ldk_mk,zG,zB,zA,cellK_some,strArg_nil,zH,pLen_nil,pBin_lss]
 have hd:decide ((0:Int)<((0:Nat):Int))=false:=by decide
 rw[hd]
 have t2:=t.puts [(23,.ptr r 0),(24,.ptr r 0),(25,.ptr r 1),(26,.sc (.int .i64 0)),(27,nilS),(28,.sc (.int .i64 (0:Nat))),(29,.sc (.bool false))] (by simp)
 have e29:Go.Ab.puts s.tm [(23,.ptr r 0),(24,.ptr r 0),(25,.ptr r 1),(26,.sc (.int .i64 0)),(27,nilS),(28,.sc (.int .i64 (0:Nat))),(29,.sc (.bool false))] 29=.sc (.bool false):=by simp
 generalize Go.Ab.puts s.tm [(23,.ptr r 0),(24,.ptr r 0),(25,.ptr r 1),(26,.sc (.int .i64 0)),(27,nilS),(28,.sc (.int .i64 (0:Nat))),(29,.sc (.bool false))]=tm2 at *
 simp only[F24.t3,e29,aIf_b,zE,zC,zD,zH]
 intro e2 E2 w2 a2 hx hs2 ha2
 cases e2<;>first |exact hx.elim |skip
 cases hx
 exact F24_end (M:=M) hr t2 c n1 n2 n3 hro RowsAt.nil hf (fun h2 r2 f2=>hR nilS h2 r2 (fun _ _ _ he=>by cases he) f2) E2 w2 a2 hs2 ha2
end
section
variable (h:AH) (M:Nat->Prop) (R:AE->AH->Prop) (E:Env) (w:World)
def K8:KT:=TC Try.prog 36 (fun id=>M id\/h.next<=id) E h w (Code.at F24.code [1,1,1]) (bodyPostD Try.prog Try.f24 (RcOf E h M w R))
def Y8:KT:=fun s h3=>F24.t9 (fun id=>M id\/h.next<=id) s h3 (K8 h M R E w) (fun s h3=>F24.t8 (toC 36 (fun id=>M id\/h.next<=id) E h w (bodyPostD Try.prog Try.f24 (RcOf E h M w R))) s h3 (K8 h M R E w))
def X8:KT:=fun s h3=>F24.t11 s h3 (fun s h3=>F24.t10 s h3 (K8 h M R E w) (Y8 h M R E w)) (K8 h M R E w)
end
structure S8 (tm:Nat->AV) (s:ByteArray) (rc ac ec:Nat):Prop where
 e0:tm 0=.sc (.string s)
 e2:tm 2=.ptr rc 0
 e3:tm 3=.ptr ac 0
 e4:tm 4=.ptr ec 0
theorem puts_at{i:Nat}:∀(l:List (Nat×AV))(tm:Nat->AV),(∀x∈l,x.1≠i)->puts tm l i=tm i
 |[],_,_=>rfl
 |x::l,tm,hl=>by
  have hx:=hl x (by simp)
  show puts (upd tm x.1 x.2) l i=tm i
  rw[puts_at l _ (fun y hy=>hl y (by simp[hy])),upd_ne (fun e=>hx e.symm)]
theorem S8.puts{tm:Nat->AV}{s:ByteArray}{rc ac ec:Nat}(t:S8 tm s rc ac ec)(l:List (Nat×AV))(hl:∀x∈l,4<x.1):S8 (puts tm l) s rc ac ec:=
 ⟨(puts_at l tm fun x hx=>by have:=hl x hx;omega).trans t.e0,(puts_at l tm fun x hx=>by have:=hl x hx;omega).trans t.e2,(puts_at l tm fun x hx=>by have:=hl x hx;omega).trans t.e3,(puts_at l tm fun x hx=>by have:=hl x hx;omega).trans t.e4⟩
section
variable {h:AH} {M:Nat->Prop} {R:AE->AH->Prop} {E:Env} {w:World} {s:ByteArray} {rc ac ec:Nat}
theorem F24_up(hr:Rel E h w){tm:Nat->AV}{h1 h2:AH}{x:AV}{a e:Int}(t:S8 tm s rc ac ec)(n1:h.next<=rc)(n2:h.next<=ac)(n3:h.next<=ec)(f0:Fr h h1 (fun _=>False))(c0:RC h1 rc ac ec nilS (.sc (.int .i64 0)) (.sc (.int .i64 0)))(f2:Fr h1 h2 (fun _=>False))
  (hk:∀tm2 h3,S8 tm2 s rc ac ec->tm2 5=x->RC h3 rc ac ec nilS (.sc (.int .i64 a)) (.sc (.int .i64 e))->Fr h h3 (fun _=>False)->(∀id o,h2.obj id=some o->o.ty≠3->o.ty≠30->h3.obj id=some o)->X8 h M R E w ⟨tm2,[]⟩ h3) :
  pExt (.tup [x,.sc (.int .i64 a),.sc (.int .i64 e)]) 0 fun t33=>pExt (.tup [x,.sc (.int .i64 a),.sc (.int .i64 e)]) 1 fun t34=>pExt (.tup [x,.sc (.int .i64 a),.sc (.int .i64 e)]) 2 fun t35=>
    eStore (some 1) (.ptr ac 0) t34 h2 (fun id=>M id\/h.next<=id) fun h36=>eStore (some 1) (.ptr ec 0) t35 h36 (fun id=>M id\/h.next<=id) fun h37=>
    TC Try.prog 36 (fun id=>M id\/h.next<=id) E h w (Code.at F24.code [1,1]) (bodyPostD Try.prog Try.f24 (RcOf E h M w R)) ⟨puts tm [(8,.sc (.string s)),(9,.tup [x,.sc (.int .i64 a),.sc (.int .i64 e)]),(7,.tup [x,.sc (.int .i64 a),.sc (.int .i64 e)]),(10,t33),(11,t34),(12,t35),(5,t33)],[]⟩ h37:=by
 have c2:=c0.fr f2 (fun h=>h) (fun h=>h) (fun h=>h)
 obtain⟨d12,d13,d23⟩:=c0.ne
 have f5:=c2.e
 simp only[pExt_tup,zA,zB,cellK_some,eStore_f,c2.a,avC_int,stk_mk,AH.put_obj,Ne.symm d23,if_false,f5]
 refine⟨⟨.inr n2,rfl,rfl,by simp⟩,⟨.inr n3,rfl,rfl,by simp⟩,?_⟩
 have t2:=t.puts [(8,.sc (.string s)),(9,.tup [x,.sc (.int .i64 a),.sc (.int .i64 e)]),(7,.tup [x,.sc (.int .i64 a),.sc (.int .i64 e)]),(10,x),(11,.sc (.int .i64 a)),(12,.sc (.int .i64 e)),(5,x)] (by simp)
 have t25:Go.Ab.puts tm [(8,.sc (.string s)),(9,.tup [x,.sc (.int .i64 a),.sc (.int .i64 e)]),(7,.tup [x,.sc (.int .i64 a),.sc (.int .i64 e)]),(10,x),(11,.sc (.int .i64 a)),(12,.sc (.int .i64 e)),(5,x)] 5=x:=by simp
 have cc:RC ((h2.put ac 0 [.sc (.int .i64 a)]).put ec 0 [.sc (.int .i64 e)]) rc ac ec nilS (.sc (.int .i64 a)) (.sc (.int .i64 e)):=
  ⟨by simp[AH.put_obj,c2.r,d12,d13],by simp[AH.put_obj,c2.a,d23],by simp[AH.put_obj,c2.e,Ne.symm d23]⟩
 have ff:Fr h ((h2.put ac 0 [.sc (.int .i64 a)]).put ec 0 [.sc (.int .i64 e)]) (fun _=>False):=((f0.trans (f2.mono fun _ h=>h.elim)).put (.inr n2)).put (.inr n3)
 have keep:∀id o,h2.obj id=some o->o.ty≠3->o.ty≠30->((h2.put ac 0 [.sc (.int .i64 a)]).put ec 0 [.sc (.int .i64 e)]).obj id=some o:=fun id o ho h3 h26=>by
  rw[AH.put_old (obj_ne ho c2.e h26),AH.put_old (obj_ne ho c2.a h3)]
  exact ho
 have:=hk _ _ t2 t25 cc ff keep
 generalize Go.Ab.puts tm [(8,.sc (.string s)),(9,.tup [x,.sc (.int .i64 a),.sc (.int .i64 e)]),(7,.tup [x,.sc (.int .i64 a),.sc (.int .i64 e)]),(10,x),(11,.sc (.int .i64 a)),(12,.sc (.int .i64 e)),(5,x)]=tm3 at *
 refine TC_then Try.mixed hr (pl:=F24.pl) F24_c2 (by kernel_rfl) ?_
 rw[F24_A2]
 exact this
theorem F24_errs(hr:Rel E h w){a e:Int}(hne:e≠0)(hR2:∀h',Fr h h' (fun _=>False)->R (.ret (.tup [nilS,.sc (.int .i64 a),.sc (.int .i64 e)])) h'){tm2:Nat->AV}{h3:AH}(t:S8 tm2 s rc ac ec)(n1:h.next<=rc)(n2:h.next<=ac)(n3:h.next<=ec)
  (c3:RC h3 rc ac ec nilS (.sc (.int .i64 a)) (.sc (.int .i64 e))) (f3:Fr h h3 (fun _=>False)):X8 h M R E w ⟨tm2,[]⟩ h3:=by
 obtain⟨d12,d13,d23⟩:=c3.ne
 have hne':(e != 0)=true:=by simpa using hne
 unfold X8
 simp only[F24.t11,t.e4,lLd_f,c3.e,ldk_mk,zA,cellK_some,pBin_neq,hne']
 have k14:puts tm2 [(13,.sc (.int .i64 e)),(14,.sc (.bool true))] 14=.sc (.bool true):=by simp
 have t2:=t.puts [(13,.sc (.int .i64 e)),(14,.sc (.bool true))] (by simp)
 generalize Go.Ab.puts tm2 [(13,.sc (.int .i64 e)),(14,.sc (.bool true))]=tm3 at *
 simp only[F24.t10,k14,aIf_b,zF,zC,zI,zD]
 unfold Y8
 simp only[F24.t9]
 refine⟨fun i=>if i=0 then ac else ec,by simp[c3.a,c3.e],?_⟩
 have ca:=c3.a
 have ce:=c3.e
 simp only[t2.e2,t2.e3,t2.e4,lLd_f,ca,ce,c3.r,ldk_mk,zA,cellK_some,eStore_f,avC_int,avC_sln,stk_mk,AH.put_obj,d12,d13,d23,Ne.symm d12,Ne.symm d13,Ne.symm d23,if_false]
 refine⟨rfl,rfl,⟨⟨.inr n1,?_⟩,rfl,rfl,by simp⟩,⟨⟨.inr n2,?_⟩,rfl,rfl,by simp⟩,⟨.inr n3,rfl,rfl,by simp⟩,?_⟩
 ·simp[d12,d13]
 ·simp[d23]
 have t4:=t2.puts [(15,.sc (.int .i64 a)),(16,.sc (.int .i64 e))] (by simp)
 refine F24_ret0 (x:=nilS) (y:=.sc (.int .i64 a)) (z:=.sc (.int .i64 e)) hr rfl t4.e2 t4.e3 t4.e4 ⟨?_,?_,?_⟩ (hR2 _ ?_)
 ·simp[AH.put_obj,c3.r,d12,d13]
 ·simp[AH.put_obj,ca,d23,Ne.symm d12]
 ·simp[AH.put_obj,ce,Ne.symm d13,Ne.symm d23]
 ·exact((f3.put (.inr n1)).put (.inr n2)).put (.inr n3)
theorem F24_fine(hr:Rel E h w){L:List Tok}(hL:LOK L) (hR:Outc (topP L s.size (L.length+1) 0 []) (fun rows=>∀x h',RowsAt h' x rows->InS (h.next<=·) x->Fr h h' (fun _=>False)->R (.ret (.tup [x,.sc (.int .i64 0),.sc (.int .i64 0)])) h')
  (fun e=>∀h',Fr h h' (fun _=>False)->R (.ret (.tup [nilS,.sc (.int .i64 e.1),.sc (.int .i64 e.2)])) h')) {tm2:Nat->AV} {h3:AH} {x:AV} (t:S8 tm2 s rc ac ec) (g5:tm2 5=x) (n1:h.next<=rc) (n2:h.next<=ac) (n3:h.next<=ec)
  (c3:RC h3 rc ac ec nilS (.sc (.int .i64 0)) (.sc (.int .i64 0))) (f3:Fr h h3 (fun _=>False)) (hx:SlL Tok.enc 3 126 h3 x L):X8 h M R E w ⟨tm2,[]⟩ h3:=by
 have hne':((0:Int) != 0)=false:=by decide
 unfold X8
 simp only[F24.t11,t.e4,lLd_f,c3.e,ldk_mk,zA,cellK_some,pBin_neq,hne']
 have k14:puts tm2 [(13,.sc (.int .i64 0)),(14,.sc (.bool false))] 14=.sc (.bool false):=by simp
 have k5:puts tm2 [(13,.sc (.int .i64 0)),(14,.sc (.bool false))] 5=x:=by simp[g5]
 have t2:=t.puts [(13,.sc (.int .i64 0)),(14,.sc (.bool false))] (by simp)
 generalize Go.Ab.puts tm2 [(13,.sc (.int .i64 0)),(14,.sc (.bool false))]=tm3 at *
 simp only[F24.t10,k14,aIf_b,zE,zC,zH,zD]
 unfold K8
 refine TC_then Try.mixed hr (pl:=F24.pl) F24_c3 (by kernel_rfl) ?_
 rw[F24.k7_a]
 simp only[F24.t7,t2.e2,t2.e3,t2.e4]
 show TC _ _ _ _ _ _ _ _ ⟨puts tm3 [(17,.fn (.func 45) [] [.ptr rc 0,.ptr ac 0,.ptr ec 0])],[⟨.func 45,[.ptr rc 0,.ptr ac 0,.ptr ec 0],[]⟩]⟩ h3
 have j5:puts tm3 [(17,.fn (.func 45) [] [.ptr rc 0,.ptr ac 0,.ptr ec 0])] 5=x:=by simp[k5]
 have t3:=t2.puts [(17,.fn (.func 45) [] [.ptr rc 0,.ptr ac 0,.ptr ec 0])] (by simp)
 generalize Go.Ab.puts tm3 [(17,.fn (.func 45) [] [.ptr rc 0,.ptr ac 0,.ptr ec 0])]=tm4 at *
 refine TC_then Try.mixed hr (pl:=F24.pl) F24_c4 (by kernel_rfl) ?_
 rw[F24.k6_a]
 simp only[F24.t6,t3.e0,j5,strArg_s,zH,pLen_s]
 have hxc:avCells x=some [x]/\oneA x=true:=by
  rcases hx with⟨rfl,_⟩ |⟨id,rfl,_⟩<;>exact⟨rfl,rfl⟩
 refine⟨[x,.sc (.int .i64 0),.sc (.int .i64 s.size),nilS],?_,?_⟩
 ·simp[aFill,hxc.1]
 refine⟨[x,.sc (.int .i64 0),.sc (.int .i64 s.size),nilS],rfl,by simp only[List.all_cons,hxc.2,List.all_nil];rfl,?_⟩
 have r5:=AH.alloc_new h3 (mkO [x,.sc (.int .i64 0),.sc (.int .i64 s.size),nilS] 4 105)
 have f5:=(Fr.refl (h:=h3) (S:=fun _=>False)).alloc (mkO [x,.sc (.int .i64 0),.sc (.int .i64 s.size),nilS] 4 105)
 have c5:=c3.fr f5 (fun h=>h) (fun h=>h) (fun h=>h)
 have ff5:=f3.trans (f5.mono fun _ h=>h.elim)
 have n4:h.next<=h3.next:=f3.next
 have t5:∀u v2:AV,T8 ⟨puts tm4 [(18,x),(19,.sc (.string s)),(20,.sc (.int .i64 s.size)),(21,u),(22,v2),(6,.ptr h3.next 0)],[⟨.func 45,[.ptr rc 0,.ptr ac 0,.ptr ec 0],[]⟩]⟩ rc ac ec h3.next x:=fun u v2=>
  have tt:=t3.puts [(18,x),(19,.sc (.string s)),(20,.sc (.int .i64 s.size)),(21,u),(22,v2),(6,.ptr h3.next 0)] (by simp)
  ⟨rfl,tt.e2,tt.e3,tt.e4,by simp[j5],by simp⟩
 rcases hx with⟨rfl,rfl⟩ |⟨id,rfl,ho⟩
 ·exact F24_loop0 (M:=M) hr (t5 _ _) c5 n1 n2 n3 r5 ff5 hR
 ·exact F24_loop (M:=M) (L:=L) (en:=s.size) (tk:=id) hr hL (t5 _ _) c5 n1 n2 n3 n4 ⟨r5,f5.obj ho (fun h=>h),.nil⟩ ff5 hR
end
theorem parse_ok{s:ByteArray}{h:AH}{M:Nat->Prop}{R:AE->AH->Prop}(hR:ParseR s h R):ACalls Try.prog 24 [.sc (.string s)] h M R:=by
 intro E w cargs hr ha
 refine calls_of_wp_defers (c:=F24.code) Try.func24 rfl ?_
 have main:TC Try.prog 36 (fun id=>M id\/h.next<=id) E h w F24.code (bodyPostD Try.prog Try.f24 (RcOf E h M w R)) (s0 [.sc (.string s)]) h:=by
  refine TC_then Try.mixed hr (pl:=F24.pl) F24_c0 (by kernel_rfl) ?_
  rw[F24.k13_a]
  simp only[F24.t13,eAlloc_d]
  refine⟨rfl,rfl,rfl,?_⟩
  simp only[AH.alloc_next]
  have c0:RC (((h.alloc (mkO ([.slice none 0 0].map AV.sc) 1 22)).alloc (mkO ([.int .i64 0].map AV.sc) 1 3)).alloc (mkO ([.int .i64 0].map AV.sc) 1 30)) h.next (h.next+1) (h.next+2) nilS (.sc (.int .i64 0)) (.sc (.int .i64 0)):=
   ⟨by simp[AH.alloc_obj,AH.alloc_next];omega,by simp[AH.alloc_obj,AH.alloc_next],by simp[AH.alloc_obj,AH.alloc_next]⟩
  have f0:=(((Fr.refl (h:=h) (S:=fun _=>False)).alloc (mkO ([.slice none 0 0].map AV.sc) 1 22)).alloc (mkO ([.int .i64 0].map AV.sc) 1 3)).alloc (mkO ([.int .i64 0].map AV.sc) 1 30)
  generalize ((h.alloc (mkO ([.slice none 0 0].map AV.sc) 1 22)).alloc (mkO ([.int .i64 0].map AV.sc) 1 3)).alloc (mkO ([.int .i64 0].map AV.sc) 1 30)=h1 at *
  have t0:S8 (puts (s0 [.sc (.string s)]).tm [(2,.ptr h.next 0),(3,.ptr (h.next+1) 0),(4,.ptr (h.next+2) 0)]) s h.next (h.next+1) (h.next+2):=⟨by simp,by simp,by simp,by simp⟩
  show TC _ _ _ _ _ _ _ _ ⟨puts (s0 [.sc (.string s)]).tm [(2,.ptr h.next 0),(3,.ptr (h.next+1) 0),(4,.ptr (h.next+2) 0)],[]⟩ h1
  generalize puts (s0 [.sc (.string s)]).tm [(2,.ptr h.next 0),(3,.ptr (h.next+1) 0),(4,.ptr (h.next+2) 0)]=tm at *
  have n1:h.next<=h.next:=zU _
  have n2:h.next<=h.next+1:=by omega
  have n3:h.next<=h.next+2:=by omega
  refine TC_then Try.mixed hr (pl:=F24.pl) F24_c1 (by kernel_rfl) ?_
  rw[F24.k12_a]
  simp only[F24.t12,t0.e0,t0.e3,t0.e4]
  refine⟨fun _=>False,fun _ h=>h.elim,scan_ok ?_⟩
  unfold ParseR parseP at hR
  unfold ScanR
  by_cases hb:65536<s.size
  ·rw[zX hb]at hR ⊢
   intro h2 m1 m2
   exact F24_up hr t0 n1 n2 n3 f0 c0 ⟨m1,fun i hi _=>m2 i hi⟩ (fun tm2 h3 t2 _ c3 f3 _=>F24_errs hr (by decide) hR t2 n1 n2 n3 c3 f3)
  rw[zW hb]at hR ⊢
  cases hsc:scanS s 0 [] with
  |error p=>
   rw[hsc]at hR
   intro h2 m1 m2
   exact F24_up hr t0 n1 n2 n3 f0 c0 ⟨m1,fun i hi _=>m2 i hi⟩ (fun tm2 h3 t2 _ c3 f3 _=>F24_errs hr (show(90:Int)≠0 by decide) hR t2 n1 n2 n3 c3 f3)
  |ok L=>
   rw[hsc]at hR
   simp only at hR
   have hL:=scan_LOK (by omega) hsc
   intro x h2 hx ix m1 m2
   refine F24_up hr t0 n1 n2 n3 f0 c0 ⟨m1,fun i hi _=>m2 i hi⟩ (fun tm2 h3 t2 g5 c3 f3 keep=>F24_fine hr hL hR t2 g5 n1 n2 n3 c3 f3 ?_)
   rcases hx with hx |⟨id,hx,ho⟩
   ·exact .inl hx
   ·exact .inr ⟨id,hx,keep id _ ho (by show(126:Nat)≠3;decide) (by show(126:Nat)≠30;decide)⟩
 exact main E w _ (Step.refl hr) (s0_ok ha (n:=36) (by simp))
end
section
open Go.Ab
def runF(p:Int->Bool)(s:ByteArray):Nat->Nat->Nat
 |0,i=>i
 |n+1,i=>if i<s.size then(if p (byteAt s i) then runF p s n (i+1) else i) else i
theorem runF_eq(p:Int->Bool)(s:ByteArray):∀(n i:Nat),s.size-i<=n->runF p s n i=runS p s i
 |0,i,h=>by rw[runF,runS,dif_neg (by omega)]
 |n+1,i,h=>by
  rw[runF,runS]
  by_cases hi:i<s.size
  ·have hb:byteAt s i=s[i].toNat:=by simp[byteAt,hi]
   rw[zX hi,dif_pos hi,hb,runF_eq p s n (i+1) (by omega)]
  ·rw[zW hi,dif_neg hi]
def lexF(s:ByteArray)(i:Nat)(c:Int):LStep:=
 if isBlank c then .skip (i+1)
 else if c==35 then .skip (runF (fun c=>c != 10) s s.size i)
 else if isLetter c then .tok ⟨1,s.extract i (runF isNameB s s.size i),i⟩ (runF isNameB s s.size i)
 else if isDigit c then(if decide (runF isDigit s s.size i<s.size)&&isLetter (byteAt s (runF isDigit s s.size i)) then .err (runF isDigit s s.size i) else .tok ⟨2,s.extract i (runF isDigit s s.size i),i⟩ (runF isDigit s s.size i))
 else if isSignB c then .tok ⟨3,s.extract i (i+1),i⟩ (i+1)
 else .err i
theorem lexF_eq(s:ByteArray)(i:Nat)(c:Int):lexF s i c=lexAt s i c:=by
 unfold lexF lexAt
 simp only[runF_eq _ s s.size i (by omega)]
def scanF(s:ByteArray):Nat->Nat->List Tok->Except Nat (List Tok)
 |0,_,acc=>.ok acc
 |n+1,i,acc=>if i<s.size then
   match lexF s i (byteAt s i) with
   |.skip j=>if i<j then scanF s n j acc else .error 0
   |.tok t j=>if i<j then scanF s n j (acc++[t]) else .error 0
   |.err j=>.error j
  else .ok acc
theorem scanF_eq(s:ByteArray):∀(n i:Nat)(acc:List Tok),s.size-i<=n->scanF s n i acc=scanS s i acc
 |0,i,acc,h=>by rw[scanF,scanS,dif_neg (by omega)]
 |n+1,i,acc,h=>by
  rw[scanF,scanS]
  by_cases hi:i<s.size
  ·rw[zX hi,dif_pos hi,lexF_eq]
   cases lexAt s i (byteAt s i) with
   |skip j=>
    simp only
    by_cases hj:i<j
    ·rw[zX hj,zX hj,scanF_eq s n j acc (by omega)]
    ·rw[zW hj,zW hj]
   |tok t j=>
    simp only
    by_cases hj:i<j
    ·rw[zX hj,zX hj,scanF_eq s n j _ (by omega)]
    ·rw[zW hj,zW hj]
   |err j=>rfl
  ·rw[zW hi,dif_neg hi]
def parseF(s:ByteArray):Res (List Row):=
 if 65536<s.size then .error (0,1)
 else match scanF s s.size 0 [] with
 |.error p=>.error (p,90)
 |.ok L=>topP L s.size (L.length+1) 0 []
theorem parseF_eq(s:ByteArray):parseF s=parseP s:=by
 unfold parseF parseP
 rw[scanF_eq s s.size 0 [] (by omega)]
 try rfl
end
section
open Go.Ab
section
variable {L:List Tok} {en:Int}
structure Good (L:List Tok) (en:Int):Prop where
 pos:0<=en
 at_:∀t∈L,0<=t.at_/\t.at_<=en
variable (G:Good L en)
include G
end
def headOf(r:Row):ByteArray:=if r.kind=sUse then r.name else r.kind
inductive RowsG (L:List Tok):Nat->Nat->List Row->Prop
 |nil {p p':Nat}:p<=p'->RowsG L p p' []
 |cons {p q p' k:Nat} {t:Tok} {r:Row} {l:List Row}:p<=k->L[k]?=some t->r.place=t.at_->headOf r=t.text->0<=r.rows->r.rows<=l.length->k<q->RowsG L q p' l->RowsG L p p' (r::l)
theorem RowsG.app{L:List Tok}{p q p':Nat}{a b:List Row}(h:RowsG L p q a)(k:RowsG L q p' b):RowsG L p p' (a++b):=by
 induction h with
 |nil h1=>
  cases k with
  |nil h2=>exact .nil (by omega)
  |cons a1 a2 a3 a4 a5 a6 a7 a8=>exact .cons (by omega) a2 a3 a4 a5 a6 a7 a8
 |cons a1 a2 a3 a4 a5 a6 a7 a8 ih=>
  rw[List.cons_append]
  exact .cons a1 a2 a3 a4 a5 (Int.le_trans a6 (Int.ofNat_le.2 (by rw[List.length_append];omega))) a7 (ih k)
theorem RowsG.len{L:List Tok}{p p':Nat}{l:List Row}(h:RowsG L p p' l):l=[]\/p+l.length<=L.length:=by
 induction h with
 |nil _=>exact .inl rfl
 |cons a1 a2 a3 a4 a5 a6 a7 a8 ih=>
  have:=(zM.1 a2).1
  rcases ih with ih |ih
  ·subst ih;exact .inr (by simp only[List.length_cons,List.length_nil];omega)
  ·exact .inr (by simp only[List.length_cons];omega)
end
section
open Go.Ab
def AG(L:List Tok)(rows:List Row):Prop:=∀r∈rows,r.args.length<=L.length/\r.num<=9007199254740991
section
variable {L:List Tok} {en:Int}
theorem AG.one{row:Row}(h:row.args.length<=L.length/\row.num<=9007199254740991):AG L [row]:=fun r hr=>by simp only[List.mem_singleton]at hr;subst hr;exact h
theorem AG.app{a b:List Row}(ha:AG L a)(hb:AG L b):AG L (a++b):=fun r hr=>(List.mem_append.1 hr).elim (ha r) (hb r)
end
end
end Go.Proofs.Ytjehibknlmehmaa
