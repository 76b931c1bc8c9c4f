/- The parser in plain Lean; contracts of the reader of package parse, and of parse.Parse; where rows and faults stand. No condition. -/
import Derived.Test.YtjehibknlmehmaaGp
import Derived.Test.YtjehibknlmehmaaGs
import Derived.Test.YtjehibknlmehmaaVa
set_option maxRecDepth 100000
namespace Go.Proofs.Ytjehibknlmehmaa
section
open Go.Ab
structure Arg where
 name:ByteArray
 index:Int
structure Row where
 kind:ByteArray
 name:ByteArray
 args:List Arg
 num:Int
 rows:Int
 place:Int
abbrev j_(α:Type):=Except (Int×Int) α
abbrev ch:ByteArray:=⟨#[113,117,98,105,116,115]⟩
abbrev cZ:ByteArray:=⟨#[98,105,116,115]⟩
abbrev bJ:ByteArray:=⟨#[103,97,116,101]⟩
abbrev bj:ByteArray:=⟨#[114,101,112,101,97,116]⟩
abbrev fK:ByteArray:=⟨#[105,102]⟩
abbrev cD:ByteArray:=⟨#[109,101,97,115,117,114,101]⟩
abbrev dz:ByteArray:=⟨#[114,101,115,101,116]⟩
abbrev cQ:ByteArray:=⟨#[117,115,101]⟩
abbrev dZ:ByteArray:=⟨#[]⟩
abbrev Ig:ByteArray:=⟨#[59]⟩
abbrev Ih:ByteArray:=⟨#[123]⟩
abbrev Pk:ByteArray:=⟨#[125]⟩
abbrev Tc:ByteArray:=⟨#[91]⟩
abbrev Mz:ByteArray:=⟨#[93]⟩
def MQ(s:ByteArray):Bool:=decide (s=ch)||decide (s=cZ)||decide (s=bJ)||decide (s=bj)||decide (s=fK)||decide (s=cD)||decide (s=dz)
section
variable (L:List Tok) (en:Int)
def iq(p:Nat)(w:Bool):j_ Tok:=
 match L[p]? with
 |none=>.error (en,101)
 |some t=>if w then .ok t else .error (t.at_,100)
def mI(p:Nat)(s:ByteArray):Bool:=match L[p]? with |some t=>t.kind==3&&decide (t.text=s) |none=>false
def ng(p:Nat):Bool:=match L[p]? with |some t=>t.kind==1&&!MQ t.text |none=>false
def jQ(p:Nat):Bool:=match L[p]? with |some t=>t.kind==2 |none=>false
def iW(p:Nat):Bool:=match L[p]? with |some t=>t.kind==1 |none=>false
def gG(p:Nat):j_ ByteArray:=(iq L en p (ng L p)).map (·.text)
def mC(p:Nat)(s:ByteArray):j_ Tok:=iq L en p (mI L p s)
def sr:List UInt8->Int->Option Int
 |[],n=>some n
 |c::l,n=>if n*10+((c.toNat:Int)-48) > 9007199254740991 then none else sr l (n*10+((c.toNat:Int)-48))
def fx(p:Nat):j_ Int:=
 match iq L en p (jQ L p) with
 |.error e=>.error e
 |.ok t=>match sr t.text.data.toList 0 with
  |some n=>.ok n
  |none=>.error (t.at_,1)
def kc(p:Nat):j_ (Arg×Nat):=
 match gG L en p with
 |.error e=>.error e
 |.ok nm=>
  if mI L (p+1) Tc then
   match fx L en (p+2) with
   |.error e=>.error e
   |.ok n=>match mC L en (p+3) Mz with
    |.error e=>.error e
    |.ok _=>.ok (⟨nm,n⟩,p+4)
  else .ok (⟨nm,-1⟩,p+1)
def mo:Nat->Nat->List Arg->j_ (List Arg×Nat)
 |0,_,_=>.error (0,-1)
 |n+1,p,acc=>if ng L p then
   match gG L en p with
   |.error e=>.error e
   |.ok nm=>mo n (p+1) (acc++[⟨nm,-1⟩])
  else .ok (acc,p)
def oR:Nat->Nat->List Arg->j_ (List Arg×Nat)
 |0,_,_=>.error (0,-1)
 |n+1,p,acc=>if ng L p then
   match kc L en p with
   |.error e=>.error e
   |.ok (a,p')=>oR n p' (acc++[a])
  else .ok (acc,p)
def qT(step:Nat->j_ (Nat×List Row)):Nat->Nat->List Row->j_ (Nat×List Row)
 |0,_,_=>.error (0,-1)
 |n+1,p,acc=>if mI L p Pk then .ok (p,acc) else
   match step p with
   |.error e=>.error e
   |.ok (p',new)=>qT step n p' (acc++new)
def Gg(k:Nat)(step:Nat->j_ (Nat×List Row))(p:Nat):j_ (Nat×List Row):=
 match mC L en p Ih with
 |.error e=>.error e
 |.ok t=>match k with
  |0=>.error (t.at_,102)
  |_=>match qT L step (L.length+1) (p+1) [] with
   |.error e=>.error e
   |.ok (p',rows)=>.ok (p'+1,rows)
def kG(p:Nat)(row:Row):j_ (Nat×List Row):=
 match mC L en p Ig with
 |.error e=>.error e
 |.ok _=>.ok (p+1,[row])
def mK(k:Nat)(step:Nat->j_ (Nat×List Row))(p:Nat)(row:Row):j_ (Nat×List Row):=
 match Gg L en k step p with
 |.error e=>.error e
 |.ok (p',rows)=>.ok (p',{ row with rows:=rows.length }::rows)
def lV:Nat->Nat->j_ (Nat×List Row)
 |k,p=>
  let step:Nat->j_ (Nat×List Row):=match k with |0=>fun _=>.error (0,-1) |k'+1=>lV k'
  match iq L en p (iW L p) with
  |.error e=>.error e
  |.ok t=>
   if t.text=ch\/t.text=cZ then
    match gG L en (p+1) with
    |.error e=>.error e
    |.ok nm=>match fx L en (p+2) with
     |.error e=>.error e
     |.ok n=>kG L en (p+3) ⟨t.text,nm,[],n,0,t.at_⟩
   else if t.text=bJ then
    match gG L en (p+1) with
    |.error e=>.error e
    |.ok nm=>match mo L en (L.length+1) (p+2) [] with
     |.error e=>.error e
     |.ok (l,p')=>mK L en k step p' ⟨t.text,nm,l,0,0,t.at_⟩
   else if t.text=bj then
    match fx L en (p+1) with
    |.error e=>.error e
    |.ok n=>mK L en k step (p+2) ⟨t.text,dZ,[],n,0,t.at_⟩
   else if t.text=fK then
    match gG L en (p+1) with
    |.error e=>.error e
    |.ok nm=>match fx L en (p+2) with
     |.error e=>.error e
     |.ok n=>mK L en k step (p+3) ⟨t.text,nm,[],n,0,t.at_⟩
   else if t.text=cD then
    match kc L en (p+1) with
    |.error e=>.error e
    |.ok (a,p1)=>match kc L en p1 with
     |.error e=>.error e
     |.ok (b,p2)=>kG L en p2 ⟨t.text,dZ,[a,b],0,0,t.at_⟩
   else if t.text=dz then
    match kc L en (p+1) with
    |.error e=>.error e
    |.ok (a,p1)=>kG L en p1 ⟨t.text,dZ,[a],0,0,t.at_⟩
   else
    match oR L en (L.length+1) (p+1) [] with
    |.error e=>.error e
    |.ok (l,p')=>kG L en p' ⟨cQ,t.text,l,0,0,t.at_⟩
def wl:Nat->Nat->List Row->j_ (List Row)
 |0,_,_=>.error (0,-1)
 |n+1,p,acc=>if p<L.length then
   match lV L en 32 p with
   |.error e=>.error e
   |.ok (p',new)=>wl n p' (acc++new)
  else .ok acc
end
end
section
open Go.Ab
section
variable {L:List Tok} {en:Int}
def nD(L:List Tok)(en:Int)(k:Nat):Nat->j_ (Nat×List Row):=match k with |0=>fun _=>.error (0,-1) |k'+1=>lV L en k'
def xM(L:List Tok)(en:Int)(k:Nat)(step:Nat->j_ (Nat×List Row))(p:Nat)(t:Tok):j_ (Nat×List Row):=
 if t.text=ch\/t.text=cZ then
  match gG L en (p+1) with
  |.error e=>.error e
  |.ok nm=>match fx L en (p+2) with
   |.error e=>.error e
   |.ok n=>kG L en (p+3) ⟨t.text,nm,[],n,0,t.at_⟩
 else if t.text=bJ then
  match gG L en (p+1) with
  |.error e=>.error e
  |.ok nm=>match mo L en (L.length+1) (p+2) [] with
   |.error e=>.error e
   |.ok (l,p')=>mK L en k step p' ⟨t.text,nm,l,0,0,t.at_⟩
 else if t.text=bj then
  match fx L en (p+1) with
  |.error e=>.error e
  |.ok n=>mK L en k step (p+2) ⟨t.text,dZ,[],n,0,t.at_⟩
 else if t.text=fK then
  match gG L en (p+1) with
  |.error e=>.error e
  |.ok nm=>match fx L en (p+2) with
   |.error e=>.error e
   |.ok n=>mK L en k step (p+3) ⟨t.text,nm,[],n,0,t.at_⟩
 else if t.text=cD then
  match kc L en (p+1) with
  |.error e=>.error e
  |.ok (a,p1)=>match kc L en p1 with
   |.error e=>.error e
   |.ok (b,p2)=>kG L en p2 ⟨t.text,dZ,[a,b],0,0,t.at_⟩
 else if t.text=dz then
  match kc L en (p+1) with
  |.error e=>.error e
  |.ok (a,p1)=>kG L en p1 ⟨t.text,dZ,[a],0,0,t.at_⟩
 else
  match oR L en (L.length+1) (p+1) [] with
  |.error e=>.error e
  |.ok (l,p')=>kG L en p' ⟨cQ,t.text,l,0,0,t.at_⟩
theorem Ey(k p:Nat):lV L en k p=(match iq L en p (iW L p) with |.error e=>.error e |.ok t=>xM L en k (nD L en k) p t):=by
 cases k<;>rfl
theorem rG{p:Nat}{w:Bool}{t:Tok}(h:iq L en p w=.ok t):p<L.length/\L[p]?=some t/\w=true:=by
 unfold iq at h
 cases hg:L[p]? with
 |none=>rw[hg]at h;cases h
 |some t'=>
  rw[hg]at h
  cases w
  ·cases h
  ·cases h;exact⟨(zM.1 hg).1,rfl,rfl⟩
theorem rH{p:Nat}{s:ByteArray}(h:gG L en p=.ok s):p<L.length/\∃t,L[p]?=some t/\t.text=s/\ng L p=true:=by
 unfold gG at h
 cases hn:iq L en p (ng L p) with
 |error e=>rw[hn]at h;cases h
 |ok t=>
  rw[hn]at h;cases h
  have:=rG hn
  exact⟨this.1,t,this.2.1,rfl,this.2.2⟩
theorem zo{p:Nat}{s:ByteArray}{t:Tok}(h:mC L en p s=.ok t):p<L.length:=(rG h).1
theorem AZ{p:Nat}{n:Int}(h:fx L en p=.ok n):p<L.length:=by
 unfold fx at h
 cases hn:iq L en p (jQ L p) with
 |error e=>rw[hn]at h;cases h
 |ok t=>exact(rG hn).1
theorem rm{p p':Nat}{a:Arg}(h:kc L en p=.ok (a,p')):p<p'/\p'<=L.length:=by
 unfold kc at h
 cases hn:gG L en p with
 |error e=>rw[hn]at h;cases h
 |ok nm=>
  have h1:=(rH hn).1
  rw[hn]at h
  simp only at h
  split at h
  ·cases hu:fx L en (p+2) with
   |error e=>rw[hu]at h;cases h
   |ok n=>
    rw[hu]at h
    cases hs:mC L en (p+3) Mz with
    |error e=>rw[hs]at h;cases h
    |ok t=>
     rw[hs]at h;cases h
     have:=zo hs
     omega
  ·cases h;omega
theorem C6:∀(n p:Nat)(acc:List Arg){l:List Arg}{p':Nat},p<=L.length->mo L en n p acc=.ok (l,p')->p<=p'/\p'<=L.length/\l.length+p=acc.length+p'
 |0,_,_,_,_,_,h=>by simp[mo]at h
 |n+1,p,acc,l,p',hp,h=>by
  simp only[mo]at h
  split at h
  ·cases hn:gG L en p with
   |error e=>rw[hn]at h;cases h
   |ok nm=>
    rw[hn]at h
    have h1:=(rH hn).1
    have:=C6 n (p+1) _ (by omega) h
    simp at this;omega
  ·cases h;omega
theorem Gj:∀(n p:Nat)(acc:List Arg){l:List Arg}{p':Nat},p<=L.length->oR L en n p acc=.ok (l,p')->p<=p'/\p'<=L.length/\l.length+p<=acc.length+p'
 |0,_,_,_,_,_,h=>by simp[oR]at h
 |n+1,p,acc,l,p',hp,h=>by
  simp only[oR]at h
  split at h
  ·cases hn:kc L en p with
   |error e=>rw[hn]at h;cases h
   |ok x=>
    obtain⟨a,p1⟩:=x
    rw[hn]at h
    have h1:=rm hn
    have:=Gj n p1 _ (by omega) h
    simp at this;omega
  ·cases h;omega
def ve(L:List Tok)(step:Nat->j_ (Nat×List Row)):Prop:=∀p p' new,step p=.ok (p',new)->p<p'/\p'<=L.length/\new.length+p<=p'
theorem EW{step:Nat->j_ (Nat×List Row)}(hs:ve L step):∀(n p:Nat)(acc:List Row){l:List Row}{p':Nat},qT L step n p acc=.ok (p',l)->p<=p'/\p'<L.length/\l.length+p<=acc.length+p'
 |0,_,_,_,_,h=>by simp[qT]at h
 |n+1,p,acc,l,p',h=>by
  simp only[qT]at h
  split at h
  ·rename_i lX
   cases h
   unfold mI at lX
   cases hg:L[p]? with
   |none=>rw[hg]at lX;cases lX
   |some t=>
    have:=(zM.1 hg).1
    omega
  ·cases hn:step p with
   |error e=>rw[hn]at h;cases h
   |ok x=>
    obtain⟨p1,new⟩:=x
    rw[hn]at h
    have h1:=hs _ _ _ hn
    have:=EW hs n p1 _ h
    simp at this;omega
theorem VS{k:Nat}{step:Nat->j_ (Nat×List Row)}(hs:ve L step){p p':Nat}{l:List Row}(h:Gg L en k step p=.ok (p',l)):p<p'/\p'<=L.length/\l.length+p<p':=by
 unfold Gg at h
 cases hn:mC L en p Ih with
 |error e=>rw[hn]at h;cases h
 |ok t=>
  rw[hn]at h
  cases k with
  |zero=>cases h
  |succ k=>
   simp only at h
   cases hl:qT L step (L.length+1) (p+1) [] with
   |error e=>rw[hl]at h;cases h
   |ok x=>
    obtain⟨p1,rows⟩:=x
    rw[hl]at h
    cases h
    have:=EW hs _ _ _ hl
    simp at this;omega
theorem uL{p p':Nat}{row:Row}{l:List Row}(h:kG L en p row=.ok (p',l)):p'=p+1/\p'<=L.length/\l=[row]:=by
 unfold kG at h
 cases hn:mC L en p Ig with
 |error e=>rw[hn]at h;cases h
 |ok t=>rw[hn]at h;cases h;have:=zo hn;exact⟨rfl,by omega,rfl⟩
theorem Ag{k:Nat}{step:Nat->j_ (Nat×List Row)}(hs:ve L step){p p':Nat}{row:Row}{l:List Row}(h:mK L en k step p row=.ok (p',l)):p<p'/\p'<=L.length/\l.length+p<=p':=by
 unfold mK at h
 cases hn:Gg L en k step p with
 |error e=>rw[hn]at h;cases h
 |ok x=>obtain⟨p1,rows⟩:=x;rw[hn]at h;cases h;have:=VS hs hn;simp;omega
theorem Mt{k:Nat}{step:Nat->j_ (Nat×List Row)}(hs:ve L step){p p':Nat}{t:Tok}{l:List Row}(hp:p<L.length)(h:xM L en k step p t=.ok (p',l)):p<p'/\p'<=L.length/\l.length+p<=p':=by
 unfold xM at h
 split at h
 ·cases h1:gG L en (p+1) with
  |error e=>rw[h1]at h;cases h
  |ok nm=>
   rw[h1]at h;simp only at h
   cases h2:fx L en (p+2) with
   |error e=>rw[h2]at h;cases h
   |ok n=>rw[h2]at h;obtain⟨rfl,a,rfl⟩:=uL h;simp;omega
 split at h
 ·cases h1:gG L en (p+1) with
  |error e=>rw[h1]at h;cases h
  |ok nm=>
   rw[h1]at h;simp only at h
   have:=(rH h1).1
   cases h2:mo L en (L.length+1) (p+2) [] with
   |error e=>rw[h2]at h;cases h
   |ok x=>obtain⟨l2,p2⟩:=x;rw[h2]at h;have a:=C6 _ _ _ (by omega) h2;have b:=Ag hs h;omega
 split at h
 ·cases h1:fx L en (p+1) with
  |error e=>rw[h1]at h;cases h
  |ok n=>rw[h1]at h;have b:=Ag hs h;omega
 split at h
 ·cases h1:gG L en (p+1) with
  |error e=>rw[h1]at h;cases h
  |ok nm=>
   rw[h1]at h;simp only at h
   cases h2:fx L en (p+2) with
   |error e=>rw[h2]at h;cases h
   |ok n=>rw[h2]at h;have b:=Ag hs h;omega
 split at h
 ·cases h1:kc L en (p+1) with
  |error e=>rw[h1]at h;cases h
  |ok x=>
   obtain⟨a,p1⟩:=x
   rw[h1]at h;simp only at h
   have:=rm h1
   cases h2:kc L en p1 with
   |error e=>rw[h2]at h;cases h
   |ok y=>obtain⟨b,p2⟩:=y;rw[h2]at h;have:=rm h2;obtain⟨rfl,a,rfl⟩:=uL h;simp;omega
 split at h
 ·cases h1:kc L en (p+1) with
  |error e=>rw[h1]at h;cases h
  |ok x=>
   obtain⟨a,p1⟩:=x
   rw[h1]at h;simp only at h
   have:=rm h1
   obtain⟨rfl,a,rfl⟩:=uL h;simp;omega
 ·cases h1:oR L en (L.length+1) (p+1) [] with
  |error e=>rw[h1]at h;cases h
  |ok x=>
   obtain⟨l2,p2⟩:=x
   rw[h1]at h;simp only at h
   have:=Gj _ _ _ (by omega) h1
   obtain⟨rfl,a,rfl⟩:=uL h;simp;omega
theorem Ex:∀(k:Nat),ve L (lV L en k):=by
 have key:∀k,ve L (nD L en k)->ve L (lV L en k):=by
  intro k hk p p' new h
  rw[Ey]at h
  cases h1:iq L en p (iW L p) with
  |error e=>rw[h1]at h;cases h
  |ok t=>rw[h1]at h;exact Mt hk (rG h1).1 h
 intro k
 induction k with
 |zero=>exact key 0 (fun _ _ _ h=>by simp[nD]at h)
 |succ k ih=>exact key (k+1) ih
end
end
section
open Go.Ab
abbrev qR(l:List Tok):AO:=aN (l.flatMap Tok.enc) 3 126
abbrev mm(tk n:Nat)(p en:Int)(rv:AV):AO:=aN [.sl tk 0 n,.sc (.int .i64 p),.sc (.int .i64 en),rv] 4 105
def dU(e:Int×Int):AV:=.kR 101 (.agg [.sc (.int .i64 e.1),.sc (.int .i64 e.2)])
def rZ{α:Type}(x:j_ α)(K:α->Prop)(KP:Int×Int->Prop):Prop:=match x with |.ok a=>K a |.error e=>KP e
theorem Ou:l7 Pg 126=some true:=by kernel_rfl
theorem Mr:fW Pg 126=some 3:=by kernel_rfl
section
variable {h:AH} {r tk:Nat} {L:List Tok} {en:Int} {rv:AV} {M:Nat->Prop} {R:AE->AH->Prop} {p:Nat}
theorem Ty{s:ByteArray}(hR:R (.ret (.sc (.bool (MQ s)))) h):aE Pg 88 [.sc (.string s)] h M R:=by
 apply YK.calls
 unfold MQ at hR
 by_cases h1:s=ch
 ·simp[h1]at hR;simp[h1,hR]
 by_cases h2:s=cZ
 ·simp[h1,h2]at hR;simp[h1,h2,hR]
 by_cases h3:s=bJ
 ·simp[h1,h2,h3]at hR;simp[h1,h2,h3,hR]
 by_cases h4:s=bj
 ·simp[h1,h2,h3,h4]at hR;simp[h1,h2,h3,h4,hR]
 by_cases h5:s=fK
 ·simp[h1,h2,h3,h4,h5]at hR;simp[h1,h2,h3,h4,h5,hR]
 by_cases h6:s=cD
 ·simp[h1,h2,h3,h4,h5,h6]at hR;simp[h1,h2,h3,h4,h5,h6,hR]
 by_cases h7:s=dz
 ·simp[h1,h2,h3,h4,h5,h6,h7]at hR;simp[h1,h2,h3,h4,h5,h6,h7,hR]
 simp[h1,h2,h3,h4,h5,h6,h7]at hR;simp[h1,h2,h3,h4,h5,h6,h7,hR]
theorem Ch{sg:ByteArray}(hr:h.obj r=some (mm tk L.length p en rv))(ht:h.obj tk=some (qR L))(hR:R (.ret (.sc (.bool (mI L p sg)))) h):aE Pg 87 [.ptr r 0,.sc (.string sg)] h M R:=by
 apply YL.calls
 unfold mI at hR
 by_cases aR:p<L.length
 ·by_cases hk:L[p].kind=3
  ·simp[aR,hk]at hR
   simp[hr,aR,ht,jK Tok.bL,fm Tok.bL,Tok.enc,hk]
   exact hR
  ·simp[aR,hk]at hR
   have sR:(L[p].kind==3)=false:=by simpa using hk
   rw[sR]at hR
   simp[hr,aR,ht,jK Tok.bL,fm Tok.bL,Tok.enc,hk]
   exact hR
 ·simp[aR]at hR
  simp[hr,aR]
  exact hR
theorem zw(hr:h.obj r=some (mm tk L.length p en rv))(ht:h.obj tk=some (qR L))(hR:R (.ret (.sc (.bool (ng L p)))) h):aE Pg 75 [.ptr r 0] h M R:=by
 apply YN.calls
 unfold ng at hR
 by_cases aR:p<L.length
 ·by_cases hk:L[p].kind=1
  ·simp[aR,hk]at hR
   simp[hr,aR,ht,jK Tok.bL,fm Tok.bL,Tok.enc,hk]
   refine⟨fun _=>False,fun _ h=>h.elim,Ty ?_⟩
   simp
   exact hR
  ·simp[aR,hk]at hR
   have sR:(L[p].kind==1)=false:=by simpa using hk
   rw[sR]at hR
   simp[hr,aR,ht,jK Tok.bL,fm Tok.bL,Tok.enc,hk]
   exact hR
 ·simp[aR]at hR
  simp[hr,aR]
  exact hR
theorem rf{wt:Bool}(hM:M r)(hL:L.length<=65536)(hr:h.obj r=some (mm tk L.length p en rv))(ht:h.obj tk=some (qR L))
  (hR:rZ (iq L en p wt) (fun t=>∀h',Fr h h' (·=r)->h'.obj r=some (mm tk L.length (p+1:Nat) en rv)->R (.ret (.agg t.enc)) h') (fun e=>∀h',Fr h h' (·=r)->R (.cg (dU e)) h')) :
  aE Pg 71 [.ptr r 0,.sc (.bool wt)] h M R:=by
 have lY:=h.lt _ _ hr
 have wV:=h.lt _ _ ht
 apply YQ.calls
 unfold iq rZ at hR
 by_cases aR:p<L.length
 ·have hg:L[p]?=some L[p]:=zJ aR
  have ll:¬(L.length:Int)<=p:=by omega
  have hw:IntKind.i64.wrap ((p:Int)+1)=(p:Int)+1:=aS (by omega) (by omega)
  cases wt
  ·simp[aR]at hR
   simp[hr,ht,aR,ll,hw,hM,AH.dy,AH.bZ,AH.cS,AH.uD,nN lY,nN wV,jK Tok.bL,fm Tok.bL,Ou,Mr,sY Tok.bL _ _ _ hg,Tok.enc,CN]
   refine⟨by omega,?_⟩
   exact hR _ (((Fr.refl.alloc _).alloc _).put (.inr (Nat.le_succ _)))
  ·simp[aR]at hR
   simp[hr,ht,aR,ll,hw,hM,AH.dy,AH.bZ,AH.cS,AH.uD,nN lY,nN wV,jK Tok.bL,fm Tok.bL,Ou,Mr,sY Tok.bL _ _ _ hg,Tok.enc,CN]
   refine⟨by omega,?_⟩
   refine hR _ ?_ ?_
   ·(repeat' first |exact Fr.refl |refine Fr.alloc ?_ _ |refine Fr.put ?_ ?_)<;>first |exact .inl rfl |exact .inr (by omega)
   simp[AH.dy,AH.bZ,AH.cS,AH.uD,nN lY,hr]
 ·simp[aR]at hR
  have ll:L.length<=p:=by omega
  simp[hr,aR,ll,nN lY,AH.dy]
  exact hR _ (Fr.refl.alloc _)
theorem B7{sg:ByteArray}(hM:M r)(hL:L.length<=65536)(hr:h.obj r=some (mm tk L.length p en rv))(ht:h.obj tk=some (qR L))
  (hR:rZ (mC L en p sg) (fun t=>∀h',Fr h h' (·=r)->h'.obj r=some (mm tk L.length (p+1:Nat) en rv)->R (.ret (.agg t.enc)) h') (fun e=>∀h',Fr h h' (·=r)->R (.cg (dU e)) h')) :
  aE Pg 74 [.ptr r 0,.sc (.string sg)] h M R:=by
 have lY:=h.lt _ _ hr
 have wV:=h.lt _ _ ht
 apply YO.calls
 simp[Ou,Mr]
 have Dm:(h.alloc (aN [.sc (.int .i64 0),.sc (.string ⟨#[]⟩),.sc (.int .i64 0)] 3 126)).obj r=some (mm tk L.length p en rv):=by rw[AH.alloc_old lY];exact hr
 have X2:(h.alloc (aN [.sc (.int .i64 0),.sc (.string ⟨#[]⟩),.sc (.int .i64 0)] 3 126)).obj tk=some (qR L):=by rw[AH.alloc_old wV];exact ht
 refine⟨fun _=>False,fun _ h=>h.elim,Ch Dm X2 ?_⟩
 refine⟨(·=r),fun _ h _=>h ▸ .inl hM,rf rfl hL Dm X2 ?_⟩
 show rZ (mC L en p sg) _ _
 have hf:=(Fr.refl (h:=h) (S:=(·=r))).alloc (aN [.sc (.int .i64 0),.sc (.string ⟨#[]⟩),.sc (.int .i64 0)] 3 126)
 cases hs:mC L en p sg with
 |error e=>
  rw[hs]at hR
  intro h' h1
  exact⟨rfl,hR _ (hf.trans (h1.mono fun _ h=>.inl h))⟩
 |ok t=>
  rw[hs]at hR
  intro h' h1 h2
  have h3:=h1.obj (AH.cm _ _) (nN lY).2.1
  have h4:=h1.next
  simp only[AH.bZ]at h4
  simp[h3,AH.cS,Tok.enc]
  refine hR _ ((hf.trans (h1.mono fun _ h=>.inl h)).put (.inr (zU _))) ?_
  rw[AH.lM (nN lY).1];exact h2
theorem Cm(hM:M r)(hL:L.length<=65536)(hr:h.obj r=some (mm tk L.length p en rv))(ht:h.obj tk=some (qR L))
  (hR:rZ (gG L en p) (fun s=>∀h',Fr h h' (·=r)->h'.obj r=some (mm tk L.length (p+1:Nat) en rv)->R (.ret (.sc (.string s))) h') (fun e=>∀h',Fr h h' (·=r)->R (.cg (dU e)) h')) :
  aE Pg 72 [.ptr r 0] h M R:=by
 apply YP.calls
 simp
 refine⟨fun _=>False,fun _ h=>h.elim,zw hr ht ?_⟩
 refine⟨(·=r),fun _ h _=>h ▸ .inl hM,rf rfl hL hr ht ?_⟩
 unfold gG at hR
 cases hs:iq L en p (ng L p) with
 |error e=>
  rw[hs]at hR
  intro h' h1
  exact⟨rfl,hR _ h1⟩
 |ok t=>
  rw[hs]at hR
  intro h' h1 h2
  have:=hR _ h1 h2
  simpa[ml,Tok.enc] using this
end
end
section
open Go.Ab
def GH(L:List Tok):Prop:=∀t∈L,t.kind=2->∀c∈t.text.data.toList,48<=c.toNat/\c.toNat<=57
abbrev wK(t:Tok):AO:=aN [.sc (.int .i64 t.kind),.sc (.string t.text),.sc (.int .i64 t.at_)] 3 126
abbrev Wz(s:ByteArray)(i:Nat):AO:={ cells:=[],sz:=0,ty:=0,kind:=.iter s i }
theorem HK(s:ByteArray)(i:Nat)(h:i<s.size):s.data.toList.drop i=s[i]::s.data.toList.drop (i+1):=by
 rw[List.drop_eq_getElem_cons (by simpa using h)];rfl
section
variable {W:Nat->Prop} {Q:c7} {QP:cL} {h:AH} {tm:Nat->AV} {tc:Nat} {t:Tok}
theorem OB(hW:∀id,h.next<=id->W id)(hs:t.text.size<=65536)(hd:∀c∈t.text.data.toList,48<=c.toNat/\c.toNat<=57)(h3:tm 3=.ptr tc 0)(hc:h.obj tc=some (wK t))
  (hQ:match sr t.text.data.toList 0 with
   |some n=>∀iZ h',iZ 2=.sc (.int .i64 n)->Fr h h' (fun _=>False)->Q .ret ⟨iZ,[]⟩ h'
   |none=>∀h',Fr h h' (fun _=>False)->QP [] (dU (t.at_,1)) h'):sd.fF W Q QP ⟨tm,[]⟩ h:=by
 simp[-sd.k8,h3,hc,qe]
 unfold sd.k8
 have Qo:=h.lt _ _ hc
 refine pC (ι:=Nat) (fun i s' h'=>s'.ds=[]/\s'.tm 3=.ptr tc 0/\s'.tm 35=.ptr h.next 0/\i<=t.text.size/\h'.obj h.next=some (Wz t.text i)/\Fr h h' (fun _=>False) /\
  ∃n:Int,0<=n/\n<=9007199254740991/\s'.tm 4=.sc (.int .i64 n)/\sr (t.text.data.toList.drop i) n=sr t.text.data.toList 0) (fun i=>t.text.size-i) 0 ?_ ?_
 ·refine⟨rfl,by simp[h3],by simp,by omega,AH.cm _ _,Fr.refl.alloc _,0,by omega,by omega,by simp,rfl⟩
 rintro i ⟨iZ,ds⟩ h' ⟨rfl,e3,VC,hi,yM,hf,n,yI,jS,e4,hv⟩
 simp only at e3 VC e4
 rw[sd.l1]
 simp only[sd.k7,VC,s_]
 refine⟨_,t.text,i,⟨hW _ (zU _),yM,rfl,rfl⟩,?_⟩
 have tY:=hf.obj hc (fun h=>h)
 by_cases aR:i<t.text.size
 ·rw[zX aR]
  have hY:t.text[i]∈t.text.data.toList:=by
   have:t.text.data.toList.drop i=t.text[i]::t.text.data.toList.drop (i+1):=HK _ _ aR
   exact List.mem_of_mem_drop (i:=i) (by rw[this];simp)
  obtain⟨d0,d1⟩:=hd _ hY
  rw[decode_ascii _ _ aR (by omega)]
  rw[HK _ _ aR]at hv
  simp only[sr]at hv
  generalize t.text[i].toNat=c at *
  have w1:IntKind.i64.wrap (n*10)=n*10:=aS (by omega) (by omega)
  have w2:IntKind.i32.wrap ((c:Int)-48)=(c:Int)-48:=IntWalk.i32_in _ (by omega)
  have w3:IntKind.i64.wrap ((c:Int)-48)=(c:Int)-48:=aS (by omega) (by omega)
  have w4:IntKind.i64.wrap (n*10+((c:Int)-48))=n*10+((c:Int)-48):=aS (by omega) (by omega)
  by_cases Qd:n*10+((c:Int)-48) > 9007199254740991
  ·rw[zX Qd]at hv
   rw[<-hv]at hQ
   have Nt:9007199254740991<n*10+((c:Int)-48):=Qd
   simp[e3,e4,w1,w2,w3,w4,Nt,AH.pG,nN Qo,tY]
   exact hQ _ (hf.Ez (zU _))
  ·rw[zW Qd]at hv
   have Nt:¬9007199254740991<n*10+((c:Int)-48):=Qd
   simp[e3,e4,VC,w1,w2,w3,w4,Nt]
   exact⟨i+1,by omega,by omega,by simp[AH.pG,yM],hf.Ez (zU _),n*10+((c:Int)-48),by omega,by omega,rfl,hv⟩
 ·rw[zW aR]
  have:t.text.data.toList.drop i=[]:=List.drop_eq_nil_of_le (by simp;omega)
  rw[this]at hv
  simp only[sr]at hv
  rw[<-hv]at hQ
  simp[e4]
  exact hQ _ _ (by simp) hf
end
section
variable {h:AH} {r tk:Nat} {L:List Tok} {en:Int} {rv:AV} {M:Nat->Prop} {R:AE->AH->Prop} {p:Nat}
theorem C5(hM:M r)(hL:L.length<=65536)(hD:GH L)(hT:∀t∈L,t.text.size<=65536)(hr:h.obj r=some (mm tk L.length p en rv))(ht:h.obj tk=some (qR L))
  (hR:rZ (fx L en p) (fun n=>∀h',Fr h h' (·=r)->h'.obj r=some (mm tk L.length (p+1:Nat) en rv)->R (.ret (.sc (.int .i64 n))) h') (fun e=>∀h',Fr h h' (·=r)->R (.cg (dU e)) h')) :
  aE Pg 73 [.ptr r 0] h M R:=by
 have lY:=h.lt _ _ hr
 have wV:=h.lt _ _ ht
 apply sd.calls
 unfold fx at hR
 have tail:∀(t:Tok)(tm:Nat->AV)(tc:Nat)(h1:AH),iq L en p (jQ L p)=.ok t->tm 3=.ptr tc 0->h1.obj tc=some (wK t)->h.next<=tc->Fr h h1 (·=r)->h1.obj r=some (mm tk L.length (p+1:Nat) en rv)->sd.fF (fun id=>M id\/h.next<=id) (Ab.dP Pg [.tmp 2] R) (Ab.bT R) ⟨tm,[]⟩ h1:=by
  intro t tm tc h1 hx h3 hc Qo hf Dm
  rw[hx]at hR
  have hY:t∈L/\t.kind=2:=by
   unfold iq jQ at hx
   cases hg:L[p]? with
   |none=>rw[hg]at hx;cases hx
   |some t'=>
    rw[hg]at hx
    simp only at hx
    split at hx
    ·cases hx;exact⟨zP hg,by simp_all⟩
    ·cases hx
  refine OB (t:=t) (fun id hid=>.inr (zR hf.next hid)) (hT _ hY.1) (hD _ hY.1 hY.2) h3 hc ?_
  cases hv:sr t.text.data.toList 0 with
  |none=>
   simp only[hv]at hR
   intro h' lZ
   simp
   exact hR _ (hf.trans (lZ.mono fun _ h=>h.elim))
  |some n=>
   simp only[hv]at hR
   intro iZ h' e2 lZ
   simp[e2]
   exact hR _ (hf.trans (lZ.mono fun _ h=>h.elim)) (lZ.obj Dm (fun h=>h))
 have he:∀e,iq L en p (jQ L p)=.error e->∀h',Fr h h' (·=r)->R (.cg (dU e)) h':=by
  intro e hx;rw[hx]at hR;exact hR
 have A1:∀(gY:AV->AV->Nat->AV),(∀a b,gY a b 3=b)->aC Pg (fun id=>M id\/h.next<=id) 71 [.ptr r 0,.sc (.bool (jQ L p))] h (fun t44 qH=>bw (some [.int .i64 0,.string ⟨#[]⟩,.int .i64 0]) 3 126 qH fun t46 yV=>
   aG (some 3) t46 t44 yV (fun id=>M id\/h.next<=id) fun qG=>sd.fF (fun id=>M id\/h.next<=id) (Ab.dP Pg [.tmp 2] R) (Ab.bT R) ⟨gY t44 t46,[]⟩ qG) (Ab.bT R []):=by
  intro gY kS
  refine⟨(·=r),fun _ h _=>h ▸ .inl hM,rf rfl hL hr ht ?_⟩
  cases hx:iq L en p (jQ L p) with
  |error e=>intro h' h1;exact⟨rfl,he e hx h' h1⟩
  |ok t=>
   intro h' h1 h2
   have h3:=h1.next
   have h4:=h'.lt _ _ h2
   simp[-sd.fF,Tok.enc,AH.dy,h3]
   refine tail t _ h'.next _ hx (by rw[kS]) (by simp[AH.cS,AH.dy]) h3 ((h1.alloc _).put (.inr h3)) (by simp[AH.cS,AH.dy,nN h4,h2])
 have A2:∀(gY:AV->AV->Nat->AV),(∀a b,gY a b 3=b)->bw (some [.int .i64 0,.string ⟨#[]⟩,.int .i64 0]) 3 126 h fun t49 sT=>aC Pg (fun id=>M id\/h.next<=id) 71 [.ptr r 0,.sc (.bool (jQ L p))] sT (fun t51 pe=>
   aG (some 3) t49 t51 pe (fun id=>M id\/h.next<=id) fun vK=>sd.fF (fun id=>M id\/h.next<=id) (Ab.dP Pg [.tmp 2] R) (Ab.bT R) ⟨gY t51 t49,[]⟩ vK) (Ab.bT R []):=by
  intro gY kS
  simp only[aX]
  refine⟨rfl,(·=r),fun _ h _=>h ▸ .inl hM,rf rfl hL (p:=p) (L:=L) (tk:=tk) (en:=en) (rv:=rv) (by rw[AH.alloc_old lY];exact hr) (by rw[AH.alloc_old wV];exact ht) ?_⟩
  have hf:=(Fr.refl (h:=h) (S:=(·=r))).alloc (aN ([.int .i64 0,.string ⟨#[]⟩,.int .i64 0].map .sc) 3 126)
  cases hx:iq L en p (jQ L p) with
  |error e=>intro h' h1;exact⟨rfl,he e hx h' (hf.trans (h1.mono fun _ h=>.inl h))⟩
  |ok t=>
   intro h' h1 h2
   have h3:=h1.obj (AH.cm _ _) (nN lY).2.1
   have h4:=h1.next
   simp only[AH.bZ]at h4
   simp[-sd.fF,Tok.enc,h3]
   refine tail t _ h.next _ hx (by rw[kS]) (by simp[AH.cS,h3]) (zU _) ((hf.trans (h1.mono fun _ h=>.inl h)).put (.inr (zU _))) (by simp[AH.cS,nN lY,h2])
 by_cases aR:p<L.length
 ·by_cases hk:L[p].kind=2
  ·have hw:jQ L p=true:=by simp[jQ,aR,hk]
   simp only[hw]at A1 A2
   simp[-sd.fF,-aX,-aF,hr,ht,aR,jK Tok.bL,fm Tok.bL,Tok.enc,hk]
   exact⟨A1 _ (fun _ _=>by simp),A2 _ (fun _ _=>by simp)⟩
  ·have hw:jQ L p=false:=by simp[jQ,aR,hk]
   have KL:(L[p].kind==2)=false:=by simpa using hk
   simp only[hw]at A1 A2
   simp[-sd.fF,-aX,-aF,hr,ht,aR,jK Tok.bL,fm Tok.bL,Tok.enc,KL]
   exact⟨A1 _ (fun _ _=>by simp),A2 _ (fun _ _=>by simp)⟩
 ·have hw:jQ L p=false:=by simp[jQ,aR]
  simp only[hw]at A1 A2
  simp[-sd.fF,-aX,-aF,hr,aR]
  exact⟨A1 _ (fun _ _=>by simp),A2 _ (fun _ _=>by simp)⟩
end
end
section
open Go.Ab
def Arg.enc(a:Arg):List AV:=[.sc (.string a.name),.sc (.int .i64 a.index)]
theorem Arg.bL(a:Arg):a.enc.length=2:=rfl
theorem Arg.iE(a:Arg):a.enc.all cG=true:=rfl
theorem abV:l7 Pg 44=some true:=by kernel_rfl
theorem Zu:fW Pg 44=some 2:=by kernel_rfl
abbrev Iq(a:Arg):AO:=aN [.sc (.string a.name),.sc (.int .i64 a.index)] 2 44
section
variable {h:AH} {r tk:Nat} {L:List Tok} {en:Int} {rv:AV} {M:Nat->Prop} {R:AE->AH->Prop} {p:Nat}
theorem pK(hM:M r)(hL:L.length<=65536)(hp:p<=L.length)(hD:GH L)(hT:∀t∈L,t.text.size<=65536)(hr:h.obj r=some (mm tk L.length p en rv))(ht:h.obj tk=some (qR L))
  (hR:rZ (kc L en p) (fun x=>∀h',Fr h h' (·=r)->h'.obj r=some (mm tk L.length x.2 en rv)->R (.ret (.agg x.1.enc)) h') (fun e=>∀h',Fr h h' (·=r)->R (.cg (dU e)) h')) :
  aE Pg 77 [.ptr r 0] h M R:=by
 have lY:=h.lt _ _ hr
 have wV:=h.lt _ _ ht
 apply qj.calls
 unfold kc at hR
 have Yi:=(Fr.refl (h:=h) (S:=(·=r))).alloc (aN [.sc (.string ⟨#[]⟩),.sc (.int .i64 0)] 2 44)
 have tail:∀(tm:Nat->AV)(h1:AH)(a:Nat)(x:Arg)(q:Nat),tm 2=.ptr h.next 0->tm 3=.ptr a 0->h1.obj a=some (Iq x)->(∃c1 c2,h1.obj h.next=some (aN [c1,c2] 2 44))->Fr h h1 (·=r)->h1.obj r=some (mm tk L.length q en rv) ->
   (∀h',Fr h h' (·=r)->h'.obj r=some (mm tk L.length q en rv)->R (.ret (.agg x.enc)) h')->qj.k1 (fun id=>M id\/h.next<=id) (Ab.dP Pg [.cell 2 44] R) (Ab.bT R) ⟨tm,[]⟩ h1:=by
  intro tm h1 a x q e2 e3 ha ⟨c1,c2,hq⟩ hf Dm hR
  simp[e2,e3,ha,hq,abV,Zu,AH.cS]
  exact hR _ (hf.put (.inr (zU _))) (by rw[AH.lM (nN lY).1];exact Dm)
 simp only[qj.k8,qj.k7,aX]
 refine⟨rfl,?_⟩
 simp only[List.map_cons,List.map_nil,aA,fk,s0]
 simp[-qj.k6]
 refine⟨(·=r),fun _ h _=>h ▸ .inl hM,Cm rfl hL (p:=p) (L:=L) (tk:=tk) (en:=en) (rv:=rv) (by rw[AH.alloc_old lY];exact hr) (by rw[AH.alloc_old wV];exact ht) ?_⟩
 cases hn:gG L en p with
 |error e=>
  rw[hn]at hR
  intro h' h1
  exact⟨rfl,hR _ (Yi.trans (h1.mono fun _ h=>.inl h))⟩
 |ok nm=>
  rw[hn]at hR
  have aR:p<L.length:=by
   unfold gG iq at hn
   cases hg:L[p]? with
   |none=>rw[hg]at hn;cases hn
   |some t=>exact(zM.1 hg).1
  intro h1 f1 r1
  have Yz:=Yi.trans (f1.mono fun _ h=>.inl h)
  have q1:=f1.obj (AH.cm _ _) (nN lY).2.1
  have n1:=f1.next
  simp only[AH.bZ]at n1
  have t1:=Yz.obj ht (ci ht hr (show(126:Nat)≠105 by decide))
  simp[-qj.k6,AH.dy]
  have f2:=(Yz.alloc (aN [.sc (.string ⟨#[]⟩),.sc (.int .i64 0)] 2 44)).put (id:=h1.next) (off:=0) (cs:=[.sc (.string nm),.sc (.int .i64 (-1))]) (.inr (by omega))
  have r2:((h1.alloc (aN [.sc (.string ⟨#[]⟩),.sc (.int .i64 0)] 2 44)).put h1.next 0 [.sc (.string nm),.sc (.int .i64 (-1))]).obj r=some (mm tk L.length (p+1:Nat) en rv):=by
   have:=h1.lt _ _ r1
   simp[AH.cS,AH.dy,nN this,r1]
  have a2:((h1.alloc (aN [.sc (.string ⟨#[]⟩),.sc (.int .i64 0)] 2 44)).put h1.next 0 [.sc (.string nm),.sc (.int .i64 (-1))]).obj h1.next=some (Iq ⟨nm,-1⟩):=by simp[AH.cS,AH.dy]
  have q2:((h1.alloc (aN [.sc (.string ⟨#[]⟩),.sc (.int .i64 0)] 2 44)).put h1.next 0 [.sc (.string nm),.sc (.int .i64 (-1))]).obj h.next=some (aN [.sc (.string ⟨#[]⟩),.sc (.int .i64 0)] 2 44):=by
   have:h.next<h1.next:=by omega
   simp[AH.cS,AH.dy,nN this,q1]
  have t2:=f2.obj ht (ci ht hr (show(126:Nat)≠105 by decide))
  have an:h.next<h1.next:=by omega
  generalize (h1.alloc (aN [.sc (.string ⟨#[]⟩),.sc (.int .i64 0)] 2 44)).put h1.next 0 [.sc (.string nm),.sc (.int .i64 (-1))]=h2 at *
  generalize h1.next=a at *
  have an2:=h2.lt _ _ a2
  refine⟨.inr (by omega),?_⟩
  simp only[qj.k6,aA,fk]
  simp[-qj.k5]
  refine⟨fun _=>False,fun _ h=>h.elim,Ch r2 t2 ?_⟩
  cases lX:mI L (p+1) Tc with
  |false=>
   simp only[lX,zE,if_false]at hR
   simp[-qj.k1]
   exact tail _ _ a ⟨nm,-1⟩ _ (by simp) (by simp) a2 ⟨_,_,q2⟩ f2 r2 hR
  |true=>
   simp only[lX,zV]at hR
   have UM:p+1<L.length:=by
    unfold mI at lX
    cases hg:L[p+1]? with
    |none=>rw[hg]at lX;cases lX
    |some t=>exact(zM.1 hg).1
   have hw:IntKind.i64.wrap ((p:Int)+1+1)=((p+2:Nat):Int):=by rw[aS (by omega) (by omega)];omega
   simp[-qj.k3,r2,hM,hw]
   have f3:=f2.put (id:=r) (off:=1) (cs:=[.sc (.int .i64 ((p:Int)+2))]) (.inl rfl)
   have r3:(h2.put r 1 [.sc (.int .i64 ((p:Int)+2))]).obj r=some (mm tk L.length (p+2:Nat) en rv):=by simp[AH.cS,r2]
   have a3:(h2.put r 1 [.sc (.int .i64 ((p:Int)+2))]).obj a=some (Iq ⟨nm,-1⟩):=by rw[AH.lM (by omega)];exact a2
   have q3:(h2.put r 1 [.sc (.int .i64 ((p:Int)+2))]).obj h.next=some (aN [.sc (.string ⟨#[]⟩),.sc (.int .i64 0)] 2 44):=by rw[AH.lM (by omega)];exact q2
   have t3:=f3.obj ht (ci ht hr (show(126:Nat)≠105 by decide))
   generalize h2.put r 1 [.sc (.int .i64 ((p:Int)+2))]=h3 at *
   have an3:=h3.lt _ _ a3
   simp only[qj.k3,aA,fk]
   simp[-qj.k2]
   refine⟨(·=r),fun _ h _=>h ▸ .inl hM,C5 rfl hL hD hT r3 t3 ?_⟩
   cases X9:fx L en (p+2) with
   |error e=>
    rw[X9]at hR
    intro h' h1
    exact⟨rfl,hR _ (f3.trans (h1.mono fun _ h=>.inl h))⟩
   |ok n=>
    rw[X9]at hR
    intro h4 f4 r4
    have a4:=f4.obj a3 (by omega)
    have q4:=f4.obj q3 (by omega)
    have Vp:=f3.trans (f4.mono fun _ h=>.inl h)
    simp[-qj.k2,a4]
    have f5:=Vp.put (id:=a) (off:=1) (cs:=[.sc (.int .i64 n)]) (.inr (by omega))
    have r5:(h4.put a 1 [.sc (.int .i64 n)]).obj r=some (mm tk L.length (p+3:Nat) en rv):=by rw[AH.lM (by omega)];exact r4
    have a5:(h4.put a 1 [.sc (.int .i64 n)]).obj a=some (Iq ⟨nm,n⟩):=by simp[AH.cS,a4]
    have q5:(h4.put a 1 [.sc (.int .i64 n)]).obj h.next=some (aN [.sc (.string ⟨#[]⟩),.sc (.int .i64 0)] 2 44):=by rw[AH.lM (by omega)];exact q4
    have t5:=f5.obj ht (ci ht hr (show(126:Nat)≠105 by decide))
    have Dk:a<h4.next:=h4.lt _ _ a4
    refine⟨by omega,?_⟩
    generalize h4.put a 1 [.sc (.int .i64 n)]=h5 at *
    simp only[qj.k2,aA,fk]
    simp[-qj.k1]
    refine⟨(·=r),fun _ h _=>h ▸ .inl hM,B7 rfl hL r5 t5 ?_⟩
    cases Dl:mC L en (p+3) Mz with
    |error e=>
     rw[Dl]at hR
     intro h' h1
     exact⟨rfl,hR _ (f5.trans (h1.mono fun _ h=>.inl h))⟩
    |ok t=>
     rw[Dl]at hR
     intro h6 f6 r6
     simp[-qj.k1]
     exact tail _ _ a ⟨nm,n⟩ _ (by simp) (by simp) (f6.obj a5 (by omega)) ⟨_,_,f6.obj q5 (by omega)⟩ (f5.trans (f6.mono fun _ h=>.inl h)) r6 hR
end
end
section
open Go.Ab
def ay(x:Row×AV):List AV:=[.sc (.string x.1.kind),.sc (.string x.1.name),x.2,.sc (.int .i64 x.1.num),.sc (.int .i64 x.1.rows),.sc (.int .i64 x.1.place)]
theorem cO(x:Row×AV):(ay x).length=6:=rfl
def fO(h:AH)(x:AV)(rows:List Row):Prop:=∃l:List (Row×AV),bN ay 6 42 h x l/\l.map (·.1)=rows/\∀y∈l,bN Arg.enc 2 44 h y.2 y.1.args
theorem fO.fr{h h':AH}{S:Nat->Prop}{x:AV}{rows:List Row}(hr:fO h x rows)(hf:Fr h h' S)(hx:∀id,x=.sl id 0 rows.length->¬S id)(ha:∀id o,h.obj id=some o->o.ty=44->¬S id):fO h' x rows:=by
 obtain⟨l,h1,h2,h3⟩:=hr
 refine⟨l,h1.aO hf (fun id he=>hx id (by rw[he,<-h2];simp)),h2,fun y hy=>?_⟩
 rcases h3 y hy with h4 |⟨id,h4,ho⟩
 ·exact .inl h4
 ·exact .inr ⟨id,h4,hf.obj ho (ha id _ ho rfl)⟩
theorem fO.nil{h:AH}:fO h aW []:=⟨[],.nil,rfl,by simp⟩
structure RS (h:AH) (r tk:Nat) (L:List Tok) (en:Int) (p:Nat) (rv:AV) (rows:List Row):Prop where
 r:h.obj r=some (mm tk L.length p en rv)
 t:h.obj tk=some (qR L)
 rows:fO h rv rows
theorem fO.id{h:AH}{x:AV}{rows:List Row}(hr:fO h x rows){id off n:Nat}(hx:x=.sl id off n):off=0/\n=rows.length/\∃o,h.obj id=some o/\o.ty=42:=by
 obtain⟨l,h1,h2,h3⟩:=hr
 rcases h1 with⟨h4,_⟩ |⟨o8,h4,ho⟩
 ·rw[h4]at hx;cases hx
 ·rw[h4]at hx;cases hx;exact⟨rfl,by rw[<-h2];simp,_,ho,rfl⟩
theorem RS.step{h h':AH}{r tk:Nat}{L:List Tok}{en:Int}{p p':Nat}{rv:AV}{rows:List Row}(hs:RS h r tk L en p rv rows)(hf:Fr h h' (·=r))(hr:h'.obj r=some (mm tk L.length p' en rv)):RS h' r tk L en p' rv rows:=by
 refine⟨hr,hf.obj hs.t (ci hs.t hs.r (show(126:Nat)≠105 by decide)),hs.rows.fr hf (fun id he hid=>?_) (fun id o ho qC hid=>?_)⟩
 ·obtain⟨_,_,o,ho,qC⟩:=hs.rows.id he
  exact ci ho hs.r (by rw[qC];show(42:Nat)≠105;decide) hid
 ·exact ci ho hs.r (by rw[qC];show(44:Nat)≠105;decide) hid
theorem RS.still{h h':AH}{r tk:Nat}{L:List Tok}{en:Int}{p:Nat}{rv:AV}{rows:List Row}(hs:RS h r tk L en p rv rows){v:Nat}(hf:Fr h h' (·=v))(hv:v≠r)(yG:∀id,rv=.sl id 0 rows.length->id≠v)(qC:∀o,h.obj v=some o->o.ty≠126/\o.ty≠44):RS h' r tk L en p rv rows:=by
 refine⟨hf.obj hs.r (Ne.symm hv),hf.obj hs.t (fun e=>(qC _ (e ▸ hs.t)).1 rfl),hs.rows.fr hf yG (fun id o ho ht hid=>?_)⟩
 subst hid
 exact(qC _ ho).2 ht
def SS(r:Nat)(rv:AV)(id:Nat):Prop:=id=r\/∃n,rv=.sl id 0 n
theorem RS.yG{h:AH}{r tk:Nat}{L:List Tok}{en:Int}{p:Nat}{rv:AV}{rows:List Row}(hs:RS h r tk L en p rv rows):∀{id off n},rv=.sl id off n->off=0/\n=rows.length/\id<h.next:=by
 intro id off n he
 obtain⟨a,b,o,ho,_⟩:=hs.rows.id he
 exact⟨a,b,h.lt _ _ ho⟩
theorem fO.len{h:AH}{x:AV}{rows:List Row}(hr:fO h x rows):(ba x=false)/\∀K,bK x K=K (.sc (.int .i64 rows.length)):=by
 obtain⟨l,h1,h2,h3⟩:=hr
 have:rows.length=l.length:=by rw[<-h2];simp
 rw[this]
 exact⟨(h1.len (K:=fun _=>True)).1,fun K=>(h1.len (K:=K)).2⟩
def V7(h:AH)(r tk:Nat)(L:List Tok)(en:Int)(rv:AV)(rows:List Row)(ret:Nat×List Row->AH->Prop)(cg:AV->AH->Prop)(res:j_ (Nat×List Row)):Prop:=
 rZ res (fun x=>∀h' tM,RS h' r tk L en x.1 tM (rows++x.2)->Fr h h' (SS r rv)->cP (fun id=>SS r rv id\/h.next<=id) tM->ret x h') (fun e=>∀h',Fr h h' (SS r rv)->cg (dU e) h')
structure oT (L:List Tok):Prop where
 len:L.length<=65536
 Lt:GH L
 Jz:∀t∈L,t.text.size<=65536
def Gx(L:List Tok)(en:Int)(k:Nat):Prop:=∀{h:AH}{r tk:Nat}{rv:AV}{rows:List Row}{M:Nat->Prop}{R:AE->AH->Prop}{p:Nat}{d:Int},d=32-(k:Int)->(∀id,SS r rv id->M id)->RS h r tk L en p rv rows->p<=L.length->rows.length<=p ->
 V7 h r tk L en rv rows (fun _ h'=>R (.ret (.dY [])) h') (fun v h'=>R (.cg v) h') (lV L en k p)->aE Pg 46 [.ptr r 0,.sc (.int .i64 d)] h M R
def qk(L:List Tok)(en:Int)(k:Nat):Prop:=∀{h:AH}{r tk:Nat}{rv:AV}{rows:List Row}{M:Nat->Prop}{R:AE->AH->Prop}{p:Nat}{d:Int},d=33-(k:Int)->(∀id,SS r rv id->M id)->RS h r tk L en p rv rows->p<=L.length->rows.length<=p ->
 V7 h r tk L en rv rows (fun x h'=>R (.ret (.sc (.int .i64 x.2.length))) h') (fun v h'=>R (.cg v) h') (Gg L en k (nD L en k) p)->aE Pg 76 [.ptr r 0,.sc (.int .i64 d)] h M R
theorem tx{h h1 h2:AH}{r:Nat}{rv G2:AV}(a:Fr h h1 (SS r rv))(hi:cP (fun id=>SS r rv id\/h.next<=id) G2)(b:Fr h1 h2 (SS r G2)):Fr h h2 (SS r rv):=
 a.trans (b.mono fun id hs=>by
  rcases hs with hs |⟨n,hn⟩
  ·exact .inl (.inl hs)
  ·exact hi id 0 n hn)
theorem E5{h h1:AH}{r:Nat}{rv G2 AF:AV}(hn:h.next<=h1.next)(hi:cP (fun id=>SS r rv id\/h.next<=id) G2)(hi2:cP (fun id=>SS r G2 id\/h1.next<=id) AF)(h2:∀{id off n},G2=.sl id off n->off=0):cP (fun id=>SS r rv id\/h.next<=id) AF:=by
 intro id off n he
 rcases hi2 id off n he with(h3 |⟨m,h3⟩) |h3
 ·exact .inl (.inl h3)
 ·exact hi id 0 m h3
 ·exact .inr (zR hn h3)
section
variable {L:List Tok} {en:Int}
theorem HM{k:Nat}(hL:oT L)(hs:∀k',k=k'+1->Gx L en k'):qk L en k:=by
 intro h r tk rv rows M R p d hd hM nR hp X4 hR
 have lY:=h.lt _ _ nR.r
 have wV:=h.lt _ _ nR.t
 have Hv:=hM r (.inl rfl)
 have Fw:=hL.len
 apply r_.calls
 unfold Gg at hR
 simp only[r_.iR,r_.fF]
 simp[-r_.k9]
 refine⟨(·=r),fun _ h _=>h ▸ .inl Hv,B7 rfl hL.len nR.r nR.t ?_⟩
 cases Dl:mC L en p Ih with
 |error e=>
  rw[Dl]at hR
  intro h' h1
  exact⟨rfl,hR _ (h1.mono fun _ h=>.inl h)⟩
 |ok t=>
  rw[Dl]at hR
  have aR:=zo Dl
  intro h1 f1 r1
  have su:=nR.step f1 r1
  have n1:=f1.next
  simp[-r_.k9,Tok.enc,AH.dy]
  refine⟨.inr n1,?_⟩
  have f2:=(((Fr.refl (h:=h1) (S:=(·=h1.next))).alloc (aN [.sc (.int .i64 0),.sc (.string ⟨#[]⟩),.sc (.int .i64 0)] 3 126))).put (id:=h1.next) (off:=0) (cs:=[.sc (.int .i64 t.kind),.sc (.string t.text),.sc (.int .i64 t.at_)]) (.inl rfl)
  have c2:((h1.alloc (aN [.sc (.int .i64 0),.sc (.string ⟨#[]⟩),.sc (.int .i64 0)] 3 126)).put h1.next 0 [.sc (.int .i64 t.kind),.sc (.string t.text),.sc (.int .i64 t.at_)]).obj h1.next=some (wK t):=by simp[AH.cS,AH.dy]
  have WA:∀o,h1.obj h1.next=some o->False:=fun o ho=>by have:=h1.lt _ _ ho;omega
  have ki:=su.still f2 (nN (h1.lt _ _ r1)).2.1 (fun id he=>by have:=su.yG he;omega) (fun o ho=>(WA o ho).elim)
  have Qx:Fr h _ (SS r rv):=(f1.mono fun _ h=>.inl h).trans (f2.mono fun id (hid:id=h1.next)=>.inr (by omega))
  generalize (h1.alloc (aN [.sc (.int .i64 0),.sc (.string ⟨#[]⟩),.sc (.int .i64 0)] 3 126)).put h1.next 0 [.sc (.int .i64 t.kind),.sc (.string t.text),.sc (.int .i64 t.at_)]=h2 at *
  simp only[r_.k9,aA,fk]
  cases k with
  |zero=>
   have yO:(32:Int)<d:=by omega
   simp[-r_.k7,yO,c2]
   exact hR _ Qx
  |succ k=>
   have yO:¬(32:Int)<d:=by omega
   simp only at hR
   simp[-r_.k6,yO,ki.r,ki.rows.len.1,ki.rows.len.2]
   unfold r_.k6
   have WL:nD L en (k+1)=lV L en k:=rfl
   rw[WL]at hR
   generalize hX:qT L (lV L en k) (L.length+1) (p+1) []=X at hR
   refine pC (ι:=Nat×Nat×List Row) (fun x s' h'=>s'.ds=[]/\s'.tm 0=.ptr r 0/\s'.tm 1=.sc (.int .i64 d)/\s'.tm 6=.sc (.int .i64 rows.length)/\x.2.1<=L.length/\L.length<x.2.1+x.1/\(rows++x.2.2).length<=x.2.1 /\
    qT L (lV L en k) x.1 x.2.1 x.2.2=X /\
    ∃tM,RS h' r tk L en x.2.1 tM (rows++x.2.2)/\Fr h h' (SS r rv)/\cP (fun id=>SS r rv id\/h.next<=id) tM) (fun x=>x.1) (L.length+1,p+1,[]) ?_ ?_
   ·refine⟨rfl,by simp,by simp,by simp,by simp;omega,by simp;omega,by simp;omega,hX,rv,by simpa using ki,Qx,fun id off n he=>?_⟩
    obtain⟨rfl,_,_⟩:=nR.yG he
    exact .inl (.inr ⟨n,he⟩)
   rintro⟨n,q,acc⟩ ⟨tm,ds⟩ h' ⟨rfl,e0,e1,e6,hq,Bh,hlen,ns,tM,oX,Qw,vD⟩
   simp only at e0 e1 e6 hq Bh hlen ns oX
   rw[r_.l1]
   cases n with
   |zero=>omega
   |succ n=>
    simp only[qT]at ns
    simp only[r_.k5,e0]
    refine⟨fun _=>False,fun _ h=>h.elim,Ch oX.r oX.t ?_⟩
    cases lX:mI L q Pk with
    |true=>
     simp only[lX,zV]at ns
     rw[<-ns]at hR
     have hw:IntKind.i64.wrap ((q:Int)+1)=(q:Int)+1:=aS (by omega) (by omega)
     have DV:=hlen
     rw[List.length_append]at DV
     have XY:IntKind.i64.wrap (((rows++acc).length:Int)-rows.length)=acc.length:=by rw[List.length_append,aS (by omega) (by omega)];omega
     have f3:=(Fr.refl (h:=h') (S:=(·=r))).put (id:=r) (off:=1) (cs:=[.sc (.int .i64 ((q:Int)+1))]) (.inl rfl)
     have nL:=oX.step (p':=q+1) f3 (by simp[AH.cS,oX.r])
     have fr3:=tx Qw vD (f3.mono fun _ h=>.inl h)
     simp[-r_.k1,e0,oX.r,Hv,hw]
     generalize h'.put r 1 [.sc (.int .i64 ((q:Int)+1))]=h3 at *
     simp only[List.length_append,Int.natCast_add]at XY
     simp[e6,e0,nL.r,nL.rows.len.1,nL.rows.len.2,XY]
     exact hR _ _ nL fr3 vD
    |false=>
     simp only[lX,zE,if_false]at ns
     simp only[dq,r_.k4,r_.k3,aA,fk,zT,zV,aj]
     simp only[Nat.reduceEqDiff,if_false,zV,e0,e1,zF,zC,zI,zD]
     refine⟨SS r tM,fun id hid _=>?_,hs k rfl (rv:=tM) (rows:=rows++acc) (p:=q) (by omega) (fun _ h=>h) oX hq hlen ?_⟩
     ·rcases hid with hid |⟨m,hid⟩
      ·exact hid ▸ .inl Hv
      ·rcases vD id 0 m hid with h4 |h4
       ·exact .inl (hM _ h4)
       ·exact .inr h4
     cases gh:lV L en k q with
     |error e=>
      rw[gh]at ns
      rw[<-ns]at hR
      intro h4 f4
      exact⟨rfl,hR _ (tx Qw vD f4)⟩
     |ok x=>
      obtain⟨q2,new⟩:=x
      rw[gh]at ns
      simp only at ns
      obtain⟨b1,b2,b3⟩:=Ex k q q2 new gh
      intro h4 rv4 rs4 f4 in4
      simp only[cC]
      refine⟨(n,q2,acc++new),by simp,trivial,by simp[e0],by simp[e1],by simp[e6],b2,by simp;omega,by simp at hlen ⊢;omega,ns,rv4,by simpa using rs4,tx Qw vD f4,E5 Qw.next vD in4 (fun he=>(oX.yG he).1)⟩
end
end
section
open Go.Ab
structure SI (h0 h:AH) (r tk:Nat) (L:List Tok) (en:Int) (dQ:AV) (bx:List Row) (v p:Nat) (rv:AV) (d0:Row) (inner:List Row) (cells:List AV):Prop where
 fr:Fr h0 h (SS r dQ)
 rs:RS h r tk L en p rv (bx++d0::inner)
 ins:cP (fun id=>h0.next<=id/\id≠v) rv
 vo:h.obj v=some (aN cells 6 42)
 vn:h0.next<=v
 rn:r<h0.next
section
variable {h0 h h':AH} {r tk:Nat} {L:List Tok} {en:Int} {dQ:AV} {bx:List Row} {v p:Nat} {rv:AV} {d0:Row} {inner:List Row} {cells:List AV}
theorem SI.vr(s:SI h0 h r tk L en dQ bx v p rv d0 inner cells):v≠r:=by have:=s.vn;have:=s.rn;omega
theorem SI.call(s:SI h0 h r tk L en dQ bx v p rv d0 inner cells){p':Nat}(hf:Fr h h' (·=r))(hr:h'.obj r=some (mm tk L.length p' en rv)):SI h0 h' r tk L en dQ bx v p' rv d0 inner cells:=
 ⟨s.fr.trans (hf.mono fun _ h=>.inl (.inl h)),s.rs.step hf hr,s.ins,hf.obj s.vo s.vr,s.vn,s.rn⟩
theorem SI.quiet(s:SI h0 h r tk L en dQ bx v p rv d0 inner cells)(hf:Fr h h' (fun _=>False)):SI h0 h' r tk L en dQ bx v p rv d0 inner cells:=
 s.call (hf.mono fun _ h=>h.elim) (hf.obj s.rs.r fun h=>h)
theorem SI.set(s:SI h0 h r tk L en dQ bx v p rv d0 inner cells)(off:Nat)(cs:List AV):SI h0 (h.put v off cs) r tk L en dQ bx v p rv d0 inner (putCells cells off cs):=by
 have f:Fr h (h.put v off cs) (·=v):=Fr.refl.put (.inl rfl)
 refine⟨s.fr.trans (f.mono fun id (hid:id=v)=>.inr (hid ▸ s.vn)),s.rs.still f s.vr (fun id he=>(s.ins id 0 _ he).2) ?_,s.ins,pj s.vo,s.vn,s.rn⟩
 intro o ho
 rw[s.vo]at ho;cases ho
 exact⟨show(42:Nat)≠126 by decide,show(42:Nat)≠44 by decide⟩
theorem SI.body(s:SI h0 h r tk L en dQ bx v p rv d0 inner cells){p':Nat}{tM:AV}{new:List Row}(nR:RS h' r tk L en p' tM ((bx++d0::inner)++new))(hf:Fr h h' (SS r rv))(hi:cP (fun id=>SS r rv id\/h.next<=id) tM) :
  SI h0 h' r tk L en dQ bx v p' tM d0 (inner++new) cells:=by
 have hv:¬SS r rv v:=by
  rintro(h1 |⟨n,h1⟩)
  ·exact s.vr h1
  ·exact(s.ins v 0 n h1).2 rfl
 have rM:=h.lt _ _ s.vo
 refine⟨s.fr.trans (hf.mono fun id hid=>?_),by simpa using nR,fun id off n he=>?_,hf.obj s.vo hv,s.vn,s.rn⟩
 ·rcases hid with h1 |⟨n,h1⟩
  ·exact .inl (.inl h1)
  ·exact .inr (s.ins id 0 n h1).1
 ·have h0:=(nR.yG he).1
  rcases hi id off n he with(h1 |⟨m,h1⟩) |h1
  ·obtain⟨_,_,o,ho,qC⟩:=nR.rows.id he
   exact(ci ho nR.r (by rw[qC];show(42:Nat)≠105;decide) h1).elim
  ·exact s.ins id 0 m h1
  ·exact⟨zR s.vn (by omega),by omega⟩
theorem jl{a:AV}{l:List Arg}(ha:bN Arg.enc 2 44 h a l){S:Nat->Prop}(hf:Fr h h' S)(hS:∀id o,h.obj id=some o->o.ty=44->¬S id):bN Arg.enc 2 44 h' a l:=by
 rcases ha with h1 |⟨id,h1,ho⟩
 ·exact .inl h1
 ·exact .inr ⟨id,h1,hf.obj ho (hS id _ ho rfl)⟩
theorem SI.a_call(s:SI h0 h r tk L en dQ bx v p rv d0 inner cells):∀id o,h.obj id=some o->o.ty=44->¬id=r:=fun id o ho ht=>ci ho s.rs.r (by rw[ht];show(44:Nat)≠105;decide)
theorem SI.D2(s:SI h0 h r tk L en dQ bx v p rv d0 inner cells):∀id o,h.obj id=some o->o.ty=44->¬id=v:=fun id o ho ht=>ci ho s.vo (by rw[ht];show(44:Nat)≠42;decide)
theorem SI.V5(s:SI h0 h r tk L en dQ bx v p rv d0 inner cells):∀id o,h.obj id=some o->o.ty=44->¬SS r rv id:=by
 rintro id o ho ht (h1 |⟨n,h1⟩)
 ·exact s.a_call id o ho ht h1
 ·obtain⟨_,_,o',eO,qC⟩:=s.rs.rows.id h1
  exact ci ho eO (by rw[ht,qC];show(44:Nat)≠42;decide) rfl
end
section
variable {h0 h:AH} {r tk:Nat} {L:List Tok} {en:Int} {dQ:AV} {bx:List Row} {v p:Nat} {rv:AV} {d0:Row} {inner:List Row} {M:Nat->Prop} {R:AE->AH->Prop} {tm:Nat->AV} {a:AV} {row:Row}
def Fin(h0:AH)(r tk:Nat)(L:List Tok)(en:Int)(dQ:AV)(bx:List Row)(R:AE->AH->Prop)(res:j_ (Nat×List Row)):Prop:=V7 h0 r tk L en dQ bx (fun _ h'=>R (.ret (.dY [])) h') (fun v h'=>R (.cg v) h') res
theorem H0(s:SI h0 h r tk L en dQ bx v p rv d0 inner (ay (row,a)))(ha:bN Arg.enc 2 44 h a row.args)(e0:tm 0=.ptr r 0)(e5:tm 5=.ptr v 0)(e6:tm 6=.sc (.int .i64 bx.length))
  (hR:Fin h0 r tk L en dQ bx R (.ok (p,row::inner))):dE.k1 (fun id=>M id\/h0.next<=id) (Ab.dP Pg [] R) (Ab.bT R) ⟨tm,[]⟩ h:=by
 obtain⟨l,h1,h2,h3⟩:=s.rs.rows
 rcases h1 with⟨_,h1⟩ |⟨id,hid,ho⟩
 ·subst h1;simp at h2
 obtain⟨A,l2,rfl,hA,oK⟩:=List.map_eq_append_iff.1 h2
 obtain⟨x,B,rfl,hx,hB⟩:=List.map_eq_cons_iff.1 oK
 have hAl:A.length=bx.length:=by rw[<-hA];simp
 obtain⟨i1,i2⟩:=s.ins id 0 _ hid
 have aaN:id≠r:=by have:=s.rn;omega
 have IM:=qo cO A B x (row,a)
 have aR:(bx.length:Int)<((A++x::B).length:Nat):=by simp;omega
 have aaZ:bx.length*6+6<=((A++x::B).flatMap ay).length:=by rw[fy cO];simp;omega
 rw[hAl]at IM
 have f1:Fr h (h.put id (bx.length*6) (ay (row,a))) (·=id):=Fr.refl.put (.inl rfl)
 have o1:(h.put id (bx.length*6) (ay (row,a))).obj id=some (aN ((A++(row,a)::B).flatMap ay) 6 42):=by rw[pj ho,IM]
 have su:RS (h.put id (bx.length*6) (ay (row,a))) r tk L en p rv (bx++row::inner):=by
  have ak:∀o8 o,h.obj o8=some o->o.ty=44->¬o8=id:=fun o8 o eO ht=>ci eO ho (by rw[ht];show(44:Nat)≠42;decide)
  refine⟨f1.obj s.rs.r (Ne.symm aaN),f1.obj s.rs.t (ci s.rs.t ho (show(126:Nat)≠42 by decide)),A++(row,a)::B,.inr ⟨id,by rw[hid];simp,o1⟩,by simp[hA,hB],fun y hy=>?_⟩
  rcases List.mem_append.1 hy with hy |hy
  ·exact jl (h3 y (by simp[hy])) f1 ak
  ·rcases List.mem_cons.1 hy with hy |hy
   ·subst hy;exact jl ha f1 ak
   ·exact jl (h3 y (by simp[hy])) f1 ak
 have jA:=hR _ _ su (s.fr.trans (f1.mono fun i (hi:i=id)=>.inr (hi ▸ i1))) (fun i off n he=>.inr (s.ins i off n he).1)
 have hv:=s.vo
 have hr:=s.rs.r
 simp only[dE.k1,e0,e5,e6,aD,ag,au,oF,hr,hv,ao,mG]
 simp only[zG,zB,zA,ab,hid,kL,aF,ho,bG,eY]
 have Qh:(ay (row,a)).length=6:=rfl
 refine⟨by simp[Qh],⟨by omega,aR⟩,?_⟩
 rw[show List.drop 0 (ay (row,a))=ay (row,a) from rfl,List.take_of_length_le (by simp[Qh])]
 rw[zY]
 exact⟨⟨.inr i1,by rcases ha with⟨rfl,_⟩ |⟨o8,rfl,_⟩<;>rfl,rfl,aaZ⟩,rfl,jA⟩
theorem WO(s:SI h0 h r tk L en dQ bx v p rv d0 inner (ay (row,a)))(hM:∀id,SS r dQ id->M id):∀id,SS r rv id->M id\/h0.next<=id:=by
 rintro id (h1 |⟨n,h1⟩)
 ·exact .inl (hM _ (.inl h1))
 ·exact .inr (s.ins id 0 n h1).1
theorem vh(hL:oT L)(hM:∀id,SS r dQ id->M id)(s:SI h0 h r tk L en dQ bx v p rv d0 [] (ay (row,a)))(ha:bN Arg.enc 2 44 h a row.args){gY:AV->Nat->AV}(e0:∀t,gY t 0=.ptr r 0)(e5:∀t,gY t 5=.ptr v 0)(e6:∀t,gY t 6=.sc (.int .i64 bx.length))
  (hR:Fin h0 r tk L en dQ bx R (kG L en p row)) :
  aC Pg (fun id=>M id\/h0.next<=id) 74 [.ptr r 0,.sc (.string ⟨#[59]⟩)] h (fun t h'=>dE.k1 (fun id=>M id\/h0.next<=id) (Ab.dP Pg [] R) (Ab.bT R) ⟨gY t,[]⟩ h') (Ab.bT R []):=by
 refine⟨(·=r),fun _ h _=>h ▸ .inl (hM r (.inl rfl)),B7 rfl hL.len s.rs.r s.rs.t ?_⟩
 unfold kG at hR
 cases hs:mC L en p Ig with
 |error e=>
  rw[hs]at hR
  intro h' h1
  exact⟨rfl,hR _ (s.fr.trans (h1.mono fun _ h=>.inl (.inl h)))⟩
 |ok t=>
  rw[hs]at hR
  intro h' f1 r1
  exact H0 (s.call f1 r1) (jl ha f1 s.a_call) (e0 _) (e5 _) (e6 _) hR
theorem As{k:Nat}{d:Int}(hL:oT L)(hb:qk L en k)(hd:d=33-(k:Int))(hM:∀id,SS r dQ id->M id)(s:SI h0 h r tk L en dQ bx v p rv d0 [] (ay (row,a)))(ha:bN Arg.enc 2 44 h a row.args)(hp:p<=L.length)(hlen:bx.length+1<=p)
  {gY:AV->AV->Nat->AV} (e0:∀t u,gY t u 0=.ptr r 0) (e5:∀t u,gY t u 5=.ptr v 0) (e6:∀t u,gY t u 6=.sc (.int .i64 bx.length))
  (hR:Fin h0 r tk L en dQ bx R (mK L en k (nD L en k) p row)) :
  aC Pg (fun id=>M id\/h0.next<=id) 76 [.ptr r 0,.sc (.int .i64 d)] h (fun t h'=>ai (some 4) (.ptr v 0) fun u=>aG (some 1) u t h' (fun id=>M id\/h0.next<=id) fun vT=>dE.k1 (fun id=>M id\/h0.next<=id) (Ab.dP Pg [] R) (Ab.bT R) ⟨gY t u,[]⟩ vT) (Ab.bT R []):=by
 refine⟨SS r rv,fun id hid _=>WO s hM id hid,hb hd (fun _ h=>h) s.rs hp (by simp;omega) ?_⟩
 unfold mK at hR
 cases hs:Gg L en k (nD L en k) p with
 |error e=>
  rw[hs]at hR
  intro h' h1
  refine⟨rfl,hR _ (s.fr.trans (h1.mono fun id hid=>?_))⟩
  rcases hid with h2 |⟨n,h2⟩
  ·exact .inl (.inl h2)
  ·exact .inr (s.ins id 0 n h2).1
 |ok x=>
  obtain⟨p',new⟩:=x
  rw[hs]at hR
  intro h' tM oX f1 i1
  have s1:=s.body oX f1 i1
  have a1:=jl ha f1 s.V5
  have s2:=s1.set 4 [.sc (.int .i64 new.length)]
  have a2:=jl a1 (Fr.refl.put (h:=h') (S:=(·=v)) (id:=v) (off:=4) (cs:=[.sc (.int .i64 new.length)]) (.inl rfl)) s1.D2
  show ai (some 4) (.ptr v 0) _
  simp only[ag,aF,s1.vo,dC,bG]
  refine⟨⟨.inr s.vn,rfl,rfl,by simp[ay]⟩,?_⟩
  exact H0 (row:={ row with rows:=new.length }) s2 a2 (e0 _ _) (e5 _ _) (e6 _ _) hR
end
end
section
open Go.Ab
def jw(h:AH)(x:AV)(rows:List Row)(a:AV):Prop:=∃l:List (Row×AV),bN ay 6 42 h x l/\l.map (·.1)=rows/\∀y∈l,bN Arg.enc 2 44 h y.2 y.1.args/\∀id off n tp n',a=.sl id off n->y.2≠.sl id tp n'
theorem jw.to{h:AH}{x:AV}{rows:List Row}{a:AV}(hr:jw h x rows a):fO h x rows:=let ⟨l,h1,h2,h3⟩:=hr;⟨l,h1,h2,fun y hy=>(h3 y hy).1⟩
theorem jw.nil{h:AH}{x:AV}{rows:List Row}(hr:fO h x rows):jw h x rows aW:=let ⟨l,h1,h2,h3⟩:=hr;⟨l,h1,h2,fun y hy=>⟨h3 y hy,fun _ _ _ _ _ he=>by cases he⟩⟩
theorem jw.fr{h h':AH}{S:Nat->Prop}{x:AV}{rows:List Row}{a:AV}(hr:jw h x rows a)(hf:Fr h h' S)(hx:∀id,x=.sl id 0 rows.length->¬S id)(ha:∀id o,h.obj id=some o->o.ty=44->¬S id):jw h' x rows a:=by
 obtain⟨l,h1,h2,h3⟩:=hr
 exact⟨l,h1.aO hf (fun id he=>hx id (by rw[he,<-h2];simp)),h2,fun y hy=>⟨jl (h3 y hy).1 hf ha,(h3 y hy).2⟩⟩
section
variable {h0 h h':AH} {r tk:Nat} {L:List Tok} {en:Int} {dQ:AV} {bx:List Row} {v p:Nat} {rv:AV} {d0:Row} {inner:List Row} {cells:List AV} {a y:AV} {acc:List Arg}
theorem jw.call(ra:jw h rv (bx++d0::inner) a)(s:SI h0 h r tk L en dQ bx v p rv d0 inner cells)(hf:Fr h h' (·=r)):jw h' rv (bx++d0::inner) a:=
 ra.fr hf (fun id he hid=>by
  obtain⟨_,_,o,ho,qC⟩:=s.rs.rows.id he
  exact ci ho s.rs.r (by rw[qC];show(42:Nat)≠105;decide) hid) s.a_call
theorem jw.set(ra:jw h rv (bx++d0::inner) a)(s:SI h0 h r tk L en dQ bx v p rv d0 inner cells)(off:Nat)(cs:List AV):jw (h.put v off cs) rv (bx++d0::inner) a:=
 ra.fr (Fr.refl.put (S:=(·=v)) (.inl rfl)) (fun id he=>(s.ins id 0 _ he).2) s.D2
theorem SI.HV(s:SI h0 h r tk L en dQ bx v p rv d0 inner cells)(ra:jw h rv (bx++d0::inner) a)(ha:bN Arg.enc 2 44 h a acc)(jg:cP (h0.next<=·) a)(hf:Fr h h' (fun i=>∃off n,a=.sl i off n))(hy:cP (h.next<=·) y) :
  SI h0 h' r tk L en dQ bx v p rv d0 inner cells/\jw h' rv (bx++d0::inner) y:=by
 have aty:∀i,(∃off n,a=.sl i off n)->∃o,h.obj i=some o/\o.ty=44:=by
  rintro i ⟨off,n,he⟩
  rcases ha with⟨h1,_⟩ |⟨id,h1,ho⟩
  ·rw[h1]at he;cases he
  ·rw[h1]at he;cases he;exact⟨_,ho,rfl⟩
 have not:∀i o,h.obj i=some o->o.ty≠44->¬ ∃off n,a=.sl i off n:=fun i o ho du he=>by
  obtain⟨o',eO,ht⟩:=aty i he
  rw[ho]at eO;cases eO;exact du ht
 have XG:jw h' rv (bx++d0::inner) y:=by
  obtain⟨l,h1,h2,h3⟩:=ra
  refine⟨l,h1.aO hf (fun id he=>?_),h2,fun z hz=>⟨?_,fun id off n tp n' he pc=>?_⟩⟩
  ·rcases h1 with⟨h4,_⟩ |⟨o8,h4,ho⟩
   ·rw[h4]at he;cases he
   ·rw[h4]at he;cases he;exact not _ _ ho (show(42:Nat)≠44 by decide)
  ·obtain⟨h4,h5⟩:=h3 z hz
   rcases h4 with h4 |⟨id,h4,ho⟩
   ·exact .inl h4
   ·refine .inr ⟨id,h4,hf.obj ho ?_⟩
    rintro⟨off,n,he⟩
    exact h5 id off n _ _ he h4
  ·have h6:=hy id off n he
   obtain⟨h4,_⟩:=h3 z hz
   rcases h4 with⟨h4,_⟩ |⟨o8,h4,ho⟩
   ·rw[h4]at pc;cases pc
   ·rw[h4]at pc;cases pc
    have:=h.lt _ _ ho
    omega
 refine⟨⟨s.fr.trans (hf.mono fun id hid=>?_),⟨hf.obj s.rs.r (not _ _ s.rs.r (show(105:Nat)≠44 by decide)),hf.obj s.rs.t (not _ _ s.rs.t (show(126:Nat)≠44 by decide)),XG.to⟩,s.ins,hf.obj s.vo (not _ _ s.vo (show(42:Nat)≠44 by decide)),s.vn,s.rn⟩,XG⟩
 obtain⟨off,n,he⟩:=hid
 exact .inr (jg id off n he)
end
section
variable {h0 h:AH} {r tk:Nat} {L:List Tok} {en:Int} {dQ:AV} {bx:List Row} {v p:Nat} {rv:AV} {d0:Row} {inner:List Row} {cells:List AV} {M:Nat->Prop} {R:AE->AH->Prop}
theorem B6(hL:oT L)(hM:∀id,SS r dQ id->M id)(s:SI h0 h r tk L en dQ bx v p rv d0 inner cells)(hc:cells.length=6){C:KT}{gY:AV->AV->Nat->AV}{off:Nat}(ho:off<6)
  (nF:∀e,gG L en p=.error e->∀h',Fr h0 h' (SS r dQ)->R (.cg (dU e)) h')
  (eQ:∀nm,gG L en p=.ok nm->∀u h',SI h0 h' r tk L en dQ bx v (p+1) rv d0 inner (putCells cells off [.sc (.string nm)])->C ⟨gY (.sc (.string nm)) u,[]⟩ h') :
  aC Pg (fun id=>M id\/h0.next<=id) 72 [.ptr r 0] h (fun t h'=>ai (some off) (.ptr v 0) fun u=>aG (some 1) u t h' (fun id=>M id\/h0.next<=id) fun vT=>C ⟨gY t u,[]⟩ vT) (Ab.bT R []):=by
 refine⟨(·=r),fun _ h _=>h ▸ .inl (hM r (.inl rfl)),Cm rfl hL.len s.rs.r s.rs.t ?_⟩
 cases hs:gG L en p with
 |error e=>intro h' h1;exact⟨rfl,nF e hs _ (s.fr.trans (h1.mono fun _ h=>.inl (.inl h)))⟩
 |ok nm=>
  intro h' f1 r1
  have s1:=s.call f1 r1
  have s2:=s1.set off [.sc (.string nm)]
  show ai (some off) (.ptr v 0) _
  simp only[ag,aF,s1.vo,lP,bG,zG]
  exact⟨⟨.inr s.vn,rfl,rfl,by omega⟩,eQ nm hs _ _ s2⟩
theorem wq(hL:oT L)(hM:∀id,SS r dQ id->M id)(s:SI h0 h r tk L en dQ bx v p rv d0 inner cells)(hc:cells.length=6){C:KT}{gY:AV->AV->Nat->AV}{off:Nat}(ho:off<6)
  (nF:∀e,fx L en p=.error e->∀h',Fr h0 h' (SS r dQ)->R (.cg (dU e)) h')
  (eQ:∀nm,fx L en p=.ok nm->∀u h',SI h0 h' r tk L en dQ bx v (p+1) rv d0 inner (putCells cells off [.sc (.int .i64 nm)])->C ⟨gY (.sc (.int .i64 nm)) u,[]⟩ h') :
  aC Pg (fun id=>M id\/h0.next<=id) 73 [.ptr r 0] h (fun t h'=>ai (some off) (.ptr v 0) fun u=>aG (some 1) u t h' (fun id=>M id\/h0.next<=id) fun vT=>C ⟨gY t u,[]⟩ vT) (Ab.bT R []):=by
 refine⟨(·=r),fun _ h _=>h ▸ .inl (hM r (.inl rfl)),C5 rfl hL.len hL.Lt hL.Jz s.rs.r s.rs.t ?_⟩
 cases hs:fx L en p with
 |error e=>intro h' h1;exact⟨rfl,nF e hs _ (s.fr.trans (h1.mono fun _ h=>.inl (.inl h)))⟩
 |ok nm=>
  intro h' f1 r1
  have s1:=s.call f1 r1
  have s2:=s1.set off [.sc (.int .i64 nm)]
  show ai (some off) (.ptr v 0) _
  simp only[ag,aF,s1.vo,dC,bG,zG]
  exact⟨⟨.inr s.vn,rfl,rfl,by omega⟩,eQ nm hs _ _ s2⟩
end
end
section
open Go.Ab
section
variable {h0 h:AH} {r tk:Nat} {L:List Tok} {en:Int} {dQ:AV} {bx:List Row} {v p:Nat} {rv:AV} {d0:Row} {M:Nat->Prop} {R:AE->AH->Prop} {tm:Nat->AV}
structure TM (tm:Nat->AV) (r v:Nat) (d:Int) (n:Nat):Prop where
 e0:tm 0=.ptr r 0
 e1:tm 1=.sc (.int .i64 d)
 e5:tm 5=.ptr v 0
 e6:tm 6=.sc (.int .i64 n)
theorem TM.aA{tm:Nat->AV}{r v:Nat}{d:Int}{n:Nat}(t:TM tm r v d n):∀(l:List (Nat×AV)),(∀x∈l,6<x.1)->TM (aA tm l) r v d n
 |[],_=>t
 |x::l,h=>by
  have hx:=h x (by simp)
  exact TM.aA (tm:=Go.Ab.fk tm x.1 x.2) ⟨by rw[mg (by omega)];exact t.e0,by rw[mg (by omega)];exact t.e1,by rw[mg (by omega)];exact t.e5,by rw[mg (by omega)];exact t.e6⟩ l (fun y hy=>h y (by simp[hy]))
theorem ON{d:Int}(hL:oT L)(hM:∀id,SS r dQ id->M id){k:ByteArray}{pl:Int}(s:SI h0 h r tk L en dQ bx v p rv d0 [] (ay (⟨k,dZ,[],0,0,pl⟩,aW)))(lh:TM tm r v d bx.length)
  (hR:Fin h0 r tk L en dQ bx R (match gG L en p with |.error e=>.error e |.ok nm=>match fx L en (p+1) with |.error e=>.error e |.ok n=>kG L en (p+2) ⟨k,nm,[],n,0,pl⟩)) :
  dE.k4 (fun id=>M id\/h0.next<=id) (Ab.dP Pg [] R) (Ab.bT R) ⟨tm,[]⟩ h:=by
 simp only[dE.k4,lh.e0,lh.e5]
 refine B6 hL hM s rfl (gY:=fun t u=>aA tm [(73,.ptr r 0),(74,t),(75,u)]) (by decide) (fun e he=>?_) (fun nm hn u h1 s1=>?_)
 ·rw[he]at hR;exact hR
 rw[hn]at hR
 have t1:=lh.aA [(73,.ptr r 0),(74,.sc (.string nm)),(75,u)] (by simp)
 generalize aA tm [(73,.ptr r 0),(74,.sc (.string nm)),(75,u)]=pU at *
 simp only[dE.k3,t1.e0,t1.e5]
 refine wq hL hM s1 rfl (gY:=fun t u=>aA pU [(76,.ptr r 0),(77,t),(78,u)]) (by decide) (fun e he=>?_) (fun n hn u h2 s2=>?_)
 ·rw[he]at hR;exact hR
 rw[hn]at hR
 have t2:=t1.aA [(76,.ptr r 0),(77,.sc (.int .i64 n)),(78,u)] (by simp)
 generalize aA pU [(76,.ptr r 0),(77,.sc (.int .i64 n)),(78,u)]=fU at *
 simp only[dE.k2,t2.e0]
 have t3:=fun t=>t2.aA [(79,.ptr r 0),(80,t)] (by simp)
 exact vh (row:=⟨k,nm,[],n,0,pl⟩) (a:=aW) hL hM s2 .nil (fun t=>(t3 t).e0) (fun t=>(t3 t).e5) (fun t=>(t3 t).e6) hR
theorem Sm{d:Int}{kk:Nat}(hL:oT L)(hb:qk L en kk)(hd:d=32-(kk:Int))(ie:kk<=32)(hlen:bx.length+1<=p)(hM:∀id,SS r dQ id->M id){k:ByteArray}{pl:Int}(s:SI h0 h r tk L en dQ bx v p rv d0 [] (ay (⟨k,dZ,[],0,0,pl⟩,aW)))(lh:TM tm r v d bx.length)
  (hR:Fin h0 r tk L en dQ bx R (match fx L en p with |.error e=>.error e |.ok n=>mK L en kk (nD L en kk) (p+1) ⟨k,dZ,[],n,0,pl⟩)) :
  dE.kQ (fun id=>M id\/h0.next<=id) (Ab.dP Pg [] R) (Ab.bT R) ⟨tm,[]⟩ h:=by
 simp only[dE.kQ,lh.e0,lh.e5]
 refine wq hL hM s rfl (gY:=fun t u=>aA tm [(103,.ptr r 0),(104,t),(105,u)]) (by decide) (fun e he=>?_) (fun n hn u h2 s2=>?_)
 ·rw[he]at hR;exact hR
 rw[hn]at hR
 have aR:=AZ hn
 have t2:=lh.aA [(103,.ptr r 0),(104,.sc (.int .i64 n)),(105,u)] (by simp)
 generalize aA tm [(103,.ptr r 0),(104,.sc (.int .i64 n)),(105,u)]=fU at *
 have hw:IntKind.i64.wrap (d+1)=d+1:=aS (by omega) (by omega)
 simp only[dE.iR,t2.e0,t2.e1,t2.e5,aT,hw]
 have t3:=fun t u=>t2.aA [(106,.ptr r 0),(107,.sc (.int .i64 d)),(108,.sc (.int .i64 (d+1))),(109,t),(110,u)] (by simp)
 exact As (row:=⟨k,dZ,[],n,0,pl⟩) (a:=aW) hL hb (by omega) hM s2 .nil (by omega) (by omega) (fun t u=>(t3 t u).e0) (fun t u=>(t3 t u).e5) (fun t u=>(t3 t u).e6) hR
theorem Wi{d:Int}{kk:Nat}(hL:oT L)(hb:qk L en kk)(hd:d=32-(kk:Int))(ie:kk<=32)(hlen:bx.length+1<=p)(hM:∀id,SS r dQ id->M id){k:ByteArray}{pl:Int}(s:SI h0 h r tk L en dQ bx v p rv d0 [] (ay (⟨k,dZ,[],0,0,pl⟩,aW)))(lh:TM tm r v d bx.length)
  (hR:Fin h0 r tk L en dQ bx R (match gG L en p with |.error e=>.error e |.ok nm=>match fx L en (p+1) with |.error e=>.error e |.ok n=>mK L en kk (nD L en kk) (p+2) ⟨k,nm,[],n,0,pl⟩)) :
  dE.oG (fun id=>M id\/h0.next<=id) (Ab.dP Pg [] R) (Ab.bT R) ⟨tm,[]⟩ h:=by
 simp only[dE.oG,lh.e0,lh.e5]
 refine B6 hL hM s rfl (gY:=fun t u=>aA tm [(113,.ptr r 0),(114,t),(115,u)]) (by decide) (fun e he=>?_) (fun nm hn u h1 s1=>?_)
 ·rw[he]at hR;exact hR
 rw[hn]at hR
 have t1:=lh.aA [(113,.ptr r 0),(114,.sc (.string nm)),(115,u)] (by simp)
 generalize aA tm [(113,.ptr r 0),(114,.sc (.string nm)),(115,u)]=pU at *
 simp only[dE.nP,t1.e0,t1.e5]
 refine wq hL hM s1 rfl (gY:=fun t u=>aA pU [(116,.ptr r 0),(117,t),(118,u)]) (by decide) (fun e he=>?_) (fun n hn u h2 s2=>?_)
 ·rw[he]at hR;exact hR
 rw[hn]at hR
 have aR:=AZ hn
 have t2:=t1.aA [(116,.ptr r 0),(117,.sc (.int .i64 n)),(118,u)] (by simp)
 generalize aA pU [(116,.ptr r 0),(117,.sc (.int .i64 n)),(118,u)]=fU at *
 have hw:IntKind.i64.wrap (d+1)=d+1:=aS (by omega) (by omega)
 simp only[dE.nj,t2.e0,t2.e1,t2.e5,aT,hw]
 have t3:=fun t u=>t2.aA [(119,.ptr r 0),(120,.sc (.int .i64 d)),(121,.sc (.int .i64 (d+1))),(122,t),(123,u)] (by simp)
 exact As (row:=⟨k,nm,[],n,0,pl⟩) (a:=aW) hL hb (by omega) hM s2 .nil (by omega) (by omega) (fun t u=>(t3 t u).e0) (fun t u=>(t3 t u).e5) (fun t u=>(t3 t u).e6) hR
end
end
section
open Go.Ab
section
variable {h0 h:AH} {r tk:Nat} {L:List Tok} {en:Int} {dQ:AV} {bx:List Row} {v p:Nat} {rv:AV} {d0:Row} {M:Nat->Prop} {R:AE->AH->Prop} {tm:Nat->AV}
theorem B5{inner:List Row}{k nm:ByteArray}{acc:List Arg}{pl:Int}{a:AV}{x:Arg}{W:Nat->Prop}{K:AV->AV->AH->Prop}(hW:∀id,h0.next<=id->W id)(s:SI h0 h r tk L en dQ bx v p rv d0 inner (ay (⟨k,nm,acc,0,0,pl⟩,a)))
  (ra:jw h rv (bx++d0::inner) a) (ha:bN Arg.enc 2 44 h a acc) (jg:cP (h0.next<=·) a) (hn:acc.length<=65536)
  (hK:∀v1 y h',SI h0 h' r tk L en dQ bx v p rv d0 inner (ay (⟨k,nm,acc++[x],0,0,pl⟩,y))->jw h' rv (bx++d0::inner) y->bN Arg.enc 2 44 h' y (acc++[x])->cP (h0.next<=·) y->K v1 y h') :
  dX (some (2,44,[.string ⟨#[]⟩,.int .i64 0])) 1 [(0,.agg x.enc)] h fun v1 h4=>fu (some (2,24,44)) a v1 h4 W fun y h5=>aG (some 1) (.ptr v 2) y h5 W fun h6=>K v1 y h6:=by
 refine Xe (f:=Arg.enc) (K:=fun v1 y h5=>aG (some 1) (.ptr v 2) y h5 W fun h6=>K v1 y h6) Arg.bL (by decide) rfl Arg.iE (by decide) ha (fun id off n he=>hW _ (jg id off n he)) (by omega) ?_
 intro v1 y h5 hy iy f5
 obtain⟨s5,ra5⟩:=s.HV ra ha jg f5 iy
 obtain⟨id,hid⟩:=hy.sl (by simp)
 have iy':cP (h0.next<=·) y:=fun i off n he=>zR (zR s.vn (by have:=h.lt _ _ s.vo;omega)) (iy i off n he)
 have s6:=s5.set 2 [y]
 have G6:=ra5.set s5 2 [y]
 have Bc:=jl hy (Fr.refl.put (h:=h5) (S:=(·=v)) (id:=v) (off:=2) (cs:=[y]) (.inl rfl)) s5.D2
 subst hid
 simp only[aF,s5.vo,Gi,bG]
 exact⟨⟨hW _ s.vn,rfl,rfl,by simp[ay]⟩,hK _ _ _ s6 G6 Bc iy'⟩
theorem OQ{d:Int}{kk:Nat}(hL:oT L)(hb:qk L en kk)(hd:d=32-(kk:Int))(ie:kk<=32)(hlen:bx.length+1<=p)(hM:∀id,SS r dQ id->M id){k:ByteArray}{pl:Int}(s:SI h0 h r tk L en dQ bx v p rv d0 [] (ay (⟨k,dZ,[],0,0,pl⟩,aW)))(lh:TM tm r v d bx.length)
  (hR:Fin h0 r tk L en dQ bx R (match gG L en p with |.error e=>.error e |.ok nm=>match mo L en (L.length+1) (p+1) [] with |.error e=>.error e |.ok (l,p')=>mK L en kk (nD L en kk) p' ⟨k,nm,l,0,0,pl⟩)) :
  dE.fF (fun id=>M id\/h0.next<=id) (Ab.dP Pg [] R) (Ab.bT R) ⟨tm,[]⟩ h:=by
 simp only[dE.fF,lh.e0,lh.e5]
 refine B6 hL hM s rfl (gY:=fun t u=>aA tm [(83,.ptr r 0),(84,t),(85,u)]) (by decide) (fun e he=>?_) (fun nm hn u h1 s1=>?_)
 ·rw[he]at hR;exact hR
 rw[hn]at hR
 have aR:=(rH hn).1
 have t1:=lh.aA [(83,.ptr r 0),(84,.sc (.string nm)),(85,u)] (by simp)
 generalize aA tm [(83,.ptr r 0),(84,.sc (.string nm)),(85,u)]=pU at *
 unfold dE.k9
 simp only at hR
 generalize hX:mo L en (L.length+1) (p+1) []=X at hR
 have Fw:=hL.len
 refine pC (ι:=Nat×Nat×List Arg) (fun x s' h'=>s'.ds=[]/\TM s'.tm r v d bx.length/\x.2.1<=L.length/\L.length<x.2.1+x.1/\x.2.2.length<=x.2.1/\bx.length+1<=x.2.1/\mo L en x.1 x.2.1 x.2.2=X /\
  ∃a,SI h0 h' r tk L en dQ bx v x.2.1 rv d0 [] (ay (⟨k,nm,x.2.2,0,0,pl⟩,a))/\jw h' rv (bx++d0::[]) a/\bN Arg.enc 2 44 h' a x.2.2/\cP (h0.next<=·) a) (fun x=>x.1) (L.length+1,p+1,[]) ?_ ?_
 ·exact⟨rfl,t1,by simp only;omega,by simp only;omega,by simp,by simp only;omega,hX,aW,s1,.nil s1.rs.rows,.nil,fun _ _ _ he=>by cases he⟩
 rintro⟨n,q,acc⟩ ⟨fU,ds⟩ h2 ⟨rfl,t2,hq,Bh,qt,Yc,ny,a,s2,JP,ji,IN⟩
 simp only at t2 hq Bh qt Yc ny s2 JP ji
 rw[dE.l1]
 cases n with
 |zero=>omega
 |succ n=>
  simp only[mo]at ny
  simp only[dE.k8,t2.e0]
  refine⟨fun _=>False,fun _ h=>h.elim,zw s2.rs.r s2.rs.t ?_⟩
  have t3:=fun b=>t2.aA [(86,.ptr r 0),(87,.sc (.bool b))] (by simp)
  cases jJ:ng L q with
  |false=>
   simp only[jJ,zE,if_false]at ny
   rw[<-ny]at hR
   have F5:aA fU [(86,.ptr r 0),(87,.sc (.bool false))] 87=.sc (.bool false):=by simp
   have t4:=t3 false
   show dE.k7 _ _ _ ⟨aA fU [(86,.ptr r 0),(87,.sc (.bool false))],[]⟩ h2
   generalize aA fU [(86,.ptr r 0),(87,.sc (.bool false))]=oA at *
   have hw:IntKind.i64.wrap (d+1)=d+1:=aS (by omega) (by omega)
   simp only[dE.k7,F5,aj,zE,zC,zH,zD,cC,fI,zV]
   simp only[dE.k5,t4.e0,t4.e1,t4.e5,aT,hw]
   have t5:=fun t u=>t4.aA [(96,.ptr r 0),(97,.sc (.int .i64 d)),(98,.sc (.int .i64 (d+1))),(99,t),(100,u)] (by simp)
   exact As (row:=⟨k,nm,acc,0,0,pl⟩) (a:=a) hL hb (by omega) hM s2 ji hq Yc (fun t u=>(t5 t u).e0) (fun t u=>(t5 t u).e5) (fun t u=>(t5 t u).e6) hR
  |true=>
   simp only[jJ,zV]at ny
   have F5:aA fU [(86,.ptr r 0),(87,.sc (.bool true))] 87=.sc (.bool true):=by simp
   have t4:=t3 true
   show dE.k7 _ _ _ ⟨aA fU [(86,.ptr r 0),(87,.sc (.bool true))],[]⟩ h2
   generalize aA fU [(86,.ptr r 0),(87,.sc (.bool true))]=oA at *
   simp only[dE.k7,F5,aj,zF,zC,zI,zD]
   simp only[dE.k6]
   refine⟨fun _=>v,by simp[s2.vo],?_⟩
   simp only[t4.e5,t4.e0,ag,au,s2.vo,ao,zG]
   simp only[ay,zB,zA,ab]
   refine⟨by simp,(·=r),fun id hid _=>?_,Cm rfl hL.len s2.rs.r s2.rs.t ?_⟩
   ·have:=s2.vr
    exact hid ▸ ⟨.inl (hM r (.inl rfl)),by simp;exact fun e=>this e.symm⟩
   cases hs:gG L en q with
   |error e=>
    rw[hs]at ny
    rw[<-ny]at hR
    intro h' f3
    exact⟨rfl,hR _ (s2.fr.trans (f3.mono fun _ h=>.inl (.inl h)))⟩
   |ok Pw=>
    rw[hs]at ny
    simp only at ny
    intro h3 f3 r3
    have s3:=s2.call f3 r3
    have Tj:=JP.call s2 f3
    have Dt:=jl ji f3 s2.a_call
    have Nq:=(rH hs).1
    refine⟨Arg.enc ⟨Pw,-1⟩,rfl,?_⟩
    show dX (some (2,44,[.string ⟨#[]⟩,.int .i64 0])) 1 [(0,.agg (Arg.enc ⟨Pw,-1⟩))] h3 _
    refine B5 (x:=⟨Pw,-1⟩) (fun id hid=>Or.inr hid) s3 Tj Dt IN (by omega) ?_
    intro v1 y h6 s6 G6 Bc PO
    simp only[cC]
    exact⟨(n,q+1,acc++[⟨Pw,-1⟩]),by simp,trivial,t4.aA _ (by simp),by simp only;omega,by simp only;omega,by simp;omega,by simp only;omega,ny,y,s6,G6,Bc,PO⟩
theorem OO{d:Int}(hL:oT L)(hM:∀id,SS r dQ id->M id)(hp:p<=L.length){k:ByteArray}{pl:Int}(s:SI h0 h r tk L en dQ bx v p rv d0 [] (ay (⟨k,dZ,[],0,0,pl⟩,aW)))(lh:TM tm r v d bx.length)
  (hR:Fin h0 r tk L en dQ bx R (match kc L en p with |.error e=>.error e |.ok (a,p1)=>match kc L en p1 with |.error e=>.error e |.ok (b,p2)=>kG L en p2 ⟨k,dZ,[a,b],0,0,pl⟩)) :
  dE.nO (fun id=>M id\/h0.next<=id) (Ab.dP Pg [] R) (Ab.bT R) ⟨tm,[]⟩ h:=by
 simp only[dE.nO]
 refine⟨fun _=>v,by simp[s.vo],?_⟩
 simp only[lh.e5,lh.e0,ag,au,s.vo,ao,zG]
 have hW:∀id,id=r->id<h.next->(M id\/h0.next<=id)/\∀i∈[1],id≠(fun _=>v) i:=fun id hid _=>by
  have:=s.vr
  exact hid ▸ ⟨.inl (hM r (.inl rfl)),by simp;exact fun e=>this e.symm⟩
 refine⟨by simp,(·=r),hW,pK rfl hL.len hp hL.Lt hL.Jz s.rs.r s.rs.t ?_⟩
 cases h1:kc L en p with
 |error e=>
  rw[h1]at hR
  intro h' f3
  exact⟨rfl,hR _ (s.fr.trans (f3.mono fun _ h=>.inl (.inl h)))⟩
 |ok x=>
  obtain⟨a,p1⟩:=x
  rw[h1]at hR
  simp only at hR
  intro h3 f3 r3
  have s3:=s.call f3 r3
  have b1:=rm h1
  refine⟨(·=r),fun id hid aR=>?_,pK rfl hL.len b1.2 hL.Lt hL.Jz s3.rs.r s3.rs.t ?_⟩
  ·have:=s.vr
   exact hid ▸ ⟨.inl (hM r (.inl rfl)),by simp;exact fun e=>this e.symm⟩
  cases h2:kc L en p1 with
  |error e=>
   rw[h2]at hR
   intro h' f4
   exact⟨rfl,hR _ (s3.fr.trans (f4.mono fun _ h=>.inl (.inl h)))⟩
  |ok x=>
   obtain⟨b,p2⟩:=x
   rw[h2]at hR
   simp only at hR
   intro h4 f4 r4
   have s4:=s3.call f4 r4
   show dX (some (2,44,[.string ⟨#[]⟩,.int .i64 0,.string ⟨#[]⟩,.int .i64 0])) 2 [(0,.agg a.enc),(1,.agg b.enc)] h4 _
   refine Xc (f:=Arg.enc) Arg.bL (by decide) rfl Arg.iE (by decide) ?_
   intro v1 y h5 hy iy f5
   have s5:=s4.quiet f5
   obtain⟨id,hid⟩:=hy.sl (by simp)
   have s6:=s5.set 2 [y]
   have Bc:=jl hy (Fr.refl.put (h:=h5) (S:=(·=v)) (id:=v) (off:=2) (cs:=[y]) (.inl rfl)) s5.D2
   have ey:cM y=some [y]:=by subst hid;rfl
   simp only[aF,s5.vo,ey,bG]
   refine⟨⟨.inr s.vn,by subst hid;rfl,rfl,by simp[ay]⟩,?_⟩
   have t4:=lh.aA [(126,.ptr v 2),(127,aW),(128,.ptr r 0),(130,.ptr r 0),(129,.agg a.enc),(131,.agg b.enc),(132,v1),(133,y),(134,.ptr v 2)] (by simp)
   show dE.oZ _ _ _ ⟨aA tm [(126,.ptr v 2),(127,aW),(128,.ptr r 0),(130,.ptr r 0),(129,.agg a.enc),(131,.agg b.enc),(132,v1),(133,y),(134,.ptr v 2)],[]⟩ _
   generalize aA tm [(126,.ptr v 2),(127,aW),(128,.ptr r 0),(130,.ptr r 0),(129,.agg a.enc),(131,.agg b.enc),(132,v1),(133,y),(134,.ptr v 2)]=oA at *
   simp only[dE.oZ,t4.e0]
   have t5:=fun t=>t4.aA [(135,.ptr r 0),(136,t)] (by simp)
   exact vh (row:=⟨k,dZ,[a,b],0,0,pl⟩) (a:=y) hL hM s6 Bc (fun t=>(t5 t).e0) (fun t=>(t5 t).e5) (fun t=>(t5 t).e6) hR
theorem LR{d:Int}(hL:oT L)(hM:∀id,SS r dQ id->M id)(hp:p<=L.length){k:ByteArray}{pl:Int}(s:SI h0 h r tk L en dQ bx v p rv d0 [] (ay (⟨k,dZ,[],0,0,pl⟩,aW)))(lh:TM tm r v d bx.length)
  (hR:Fin h0 r tk L en dQ bx R (match kc L en p with |.error e=>.error e |.ok (a,p1)=>kG L en p1 ⟨k,dZ,[a],0,0,pl⟩)) :
  dE.sJ (fun id=>M id\/h0.next<=id) (Ab.dP Pg [] R) (Ab.bT R) ⟨tm,[]⟩ h:=by
 simp only[dE.sJ]
 refine⟨fun _=>v,by simp[s.vo],?_⟩
 simp only[lh.e5,lh.e0,ag,au,s.vo,ao,zG]
 refine⟨by simp,(·=r),fun id hid _=>?_,pK rfl hL.len hp hL.Lt hL.Jz s.rs.r s.rs.t ?_⟩
 ·have:=s.vr
  exact hid ▸ ⟨.inl (hM r (.inl rfl)),by simp;exact fun e=>this e.symm⟩
 cases h1:kc L en p with
 |error e=>
  rw[h1]at hR
  intro h' f3
  exact⟨rfl,hR _ (s.fr.trans (f3.mono fun _ h=>.inl (.inl h)))⟩
 |ok x=>
  obtain⟨a,p1⟩:=x
  rw[h1]at hR
  simp only at hR
  intro h4 f4 r4
  have s4:=s.call f4 r4
  show dX (some (2,44,[.string ⟨#[]⟩,.int .i64 0])) 1 [(0,.agg a.enc)] h4 _
  refine B5 (x:=a) (fun id hid=>Or.inr hid) s4 (.nil s4.rs.rows) .nil (fun _ _ _ he=>by cases he) (by simp) ?_
  intro v1 y h6 s6 G6 Bc PO
  have t4:=lh.aA [(139,.ptr v 2),(140,aW),(141,.ptr r 0),(142,.agg a.enc),(143,v1),(144,y),(145,.ptr v 2)] (by simp)
  show dE.sK _ _ _ ⟨aA tm [(139,.ptr v 2),(140,aW),(141,.ptr r 0),(142,.agg a.enc),(143,v1),(144,y),(145,.ptr v 2)],[]⟩ _
  generalize aA tm [(139,.ptr v 2),(140,aW),(141,.ptr r 0),(142,.agg a.enc),(143,v1),(144,y),(145,.ptr v 2)]=oA at *
  simp only[dE.sK,t4.e0]
  have t5:=fun t=>t4.aA [(146,.ptr r 0),(147,t)] (by simp)
  exact vh (row:=⟨k,dZ,[a],0,0,pl⟩) (a:=y) hL hM s6 Bc (fun t=>(t5 t).e0) (fun t=>(t5 t).e5) (fun t=>(t5 t).e6) hR
theorem Sl{d:Int}{tc:Nat}{t:Tok}(hL:oT L)(hM:∀id,SS r dQ id->M id)(hp:p<=L.length)(hlen:bx.length+1<=p)(U2:tc≠v)(e4:tm 4=.ptr tc 0)(hc:h.obj tc=some (wK t)){pl:Int}(s:SI h0 h r tk L en dQ bx v p rv d0 [] (ay (⟨t.text,dZ,[],0,0,pl⟩,aW)))(lh:TM tm r v d bx.length)
  (hR:Fin h0 r tk L en dQ bx R (match oR L en (L.length+1) p [] with |.error e=>.error e |.ok (l,p')=>kG L en p' ⟨cQ,t.text,l,0,0,pl⟩)) :
  dE.A9 (fun id=>M id\/h0.next<=id) (Ab.dP Pg [] R) (Ab.bT R) ⟨tm,[]⟩ h:=by
 simp only[dE.A9]
 refine⟨fun _=>tc,by simp[hc],?_⟩
 simp only[lh.e5,e4,ag,au,hc,ao,zG,zB,zA,ab,aF,s.vo,lP,bG]
 refine⟨by simp,⟨⟨.inr s.vn,by simp;exact fun e=>U2 e.symm⟩,rfl,rfl,by simp[ay]⟩,?_⟩
 have s1:=s.set 0 [.sc (.string cQ)]
 simp only[s1.vo,bG]
 refine⟨⟨.inr s.vn,rfl,rfl,by simp[ay]⟩,?_⟩
 have s2:=s1.set 1 [.sc (.string t.text)]
 have t1:=lh.aA [(55,.ptr tc 1),(56,.sc (.string t.text)),(57,.ptr v 0),(58,.ptr v 1)] (by simp)
 show dE.sI _ _ _ ⟨aA tm [(55,.ptr tc 1),(56,.sc (.string t.text)),(57,.ptr v 0),(58,.ptr v 1)],[]⟩ _
 generalize aA tm [(55,.ptr tc 1),(56,.sc (.string t.text)),(57,.ptr v 0),(58,.ptr v 1)]=pU at *
 generalize (h.put v 0 [.sc (.string cQ)]).put v 1 [.sc (.string t.text)]=h1 at *
 unfold dE.sI
 generalize hX:oR L en (L.length+1) p []=X at hR
 have Fw:=hL.len
 refine pC (ι:=Nat×Nat×List Arg) (fun x s' h'=>s'.ds=[]/\TM s'.tm r v d bx.length/\x.2.1<=L.length/\L.length<x.2.1+x.1/\x.2.2.length<=x.2.1/\oR L en x.1 x.2.1 x.2.2=X /\
  ∃a,SI h0 h' r tk L en dQ bx v x.2.1 rv d0 [] (ay (⟨cQ,t.text,x.2.2,0,0,pl⟩,a))/\jw h' rv (bx++d0::[]) a/\bN Arg.enc 2 44 h' a x.2.2/\cP (h0.next<=·) a) (fun x=>x.1) (L.length+1,p,[]) ?_ ?_
 ·exact⟨rfl,t1,hp,by simp only;omega,by simp,hX,aW,s2,.nil s2.rs.rows,.nil,fun _ _ _ he=>by cases he⟩
 rintro⟨n,q,acc⟩ ⟨fU,ds⟩ h2 ⟨rfl,t2,hq,Bh,qt,ny,a,s2,JP,ji,IN⟩
 simp only at t2 hq Bh qt ny s2 JP ji
 rw[dE.l2]
 cases n with
 |zero=>omega
 |succ n=>
  simp only[oR]at ny
  simp only[dE.tR,t2.e0]
  refine⟨fun _=>False,fun _ h=>h.elim,zw s2.rs.r s2.rs.t ?_⟩
  have t3:=fun b=>t2.aA [(59,.ptr r 0),(60,.sc (.bool b))] (by simp)
  cases jJ:ng L q with
  |false=>
   simp only[jJ,zE,if_false]at ny
   rw[<-ny]at hR
   have F5:aA fU [(59,.ptr r 0),(60,.sc (.bool false))] 60=.sc (.bool false):=by simp
   have t4:=t3 false
   show dE.qB _ _ _ ⟨aA fU [(59,.ptr r 0),(60,.sc (.bool false))],[]⟩ h2
   generalize aA fU [(59,.ptr r 0),(60,.sc (.bool false))]=oA at *
   simp only[dE.qB,F5,aj,zE,zC,zH,zD,cC,fI,zV]
   simp only[dE.rJ,t4.e0]
   have t5:=fun t=>t4.aA [(68,.ptr r 0),(69,t)] (by simp)
   exact vh (row:=⟨cQ,t.text,acc,0,0,pl⟩) (a:=a) hL hM s2 ji (fun t=>(t5 t).e0) (fun t=>(t5 t).e5) (fun t=>(t5 t).e6) hR
  |true=>
   simp only[jJ,zV]at ny
   have F5:aA fU [(59,.ptr r 0),(60,.sc (.bool true))] 60=.sc (.bool true):=by simp
   have t4:=t3 true
   show dE.qB _ _ _ ⟨aA fU [(59,.ptr r 0),(60,.sc (.bool true))],[]⟩ h2
   generalize aA fU [(59,.ptr r 0),(60,.sc (.bool true))]=oA at *
   simp only[dE.qB,F5,aj,zF,zC,zI,zD]
   simp only[dE.vC]
   refine⟨fun _=>v,by simp[s2.vo],?_⟩
   simp only[t4.e5,t4.e0,ag,au,s2.vo,ao,zG]
   simp only[ay,zB,zA,ab]
   refine⟨by simp,(·=r),fun id hid _=>?_,pK rfl hL.len hq hL.Lt hL.Jz s2.rs.r s2.rs.t ?_⟩
   ·have:=s2.vr
    exact hid ▸ ⟨.inl (hM r (.inl rfl)),by simp;exact fun e=>this e.symm⟩
   cases hs:kc L en q with
   |error e=>
    rw[hs]at ny
    rw[<-ny]at hR
    intro h' f3
    exact⟨rfl,hR _ (s2.fr.trans (f3.mono fun _ h=>.inl (.inl h)))⟩
   |ok x=>
    obtain⟨x,q2⟩:=x
    rw[hs]at ny
    simp only at ny
    intro h3 f3 r3
    have s3:=s2.call f3 r3
    have Tj:=JP.call s2 f3
    have Dt:=jl ji f3 s2.a_call
    have Nq:=rm hs
    show dX (some (2,44,[.string ⟨#[]⟩,.int .i64 0])) 1 [(0,.agg x.enc)] h3 _
    refine B5 (x:=x) (fun id hid=>Or.inr hid) s3 Tj Dt IN (by omega) ?_
    intro v1 y h6 s6 G6 Bc PO
    simp only[cC]
    exact⟨(n,q2,acc++[x]),by simp,trivial,t4.aA _ (by simp),by simp only;omega,by simp only;omega,by simp;omega,ny,y,s6,G6,Bc,PO⟩
end
end
section
open Go.Ab
structure TX (tm:Nat->AV) (r v:Nat) (d:Int) (n tc:Nat) (t:Tok):Prop where
 m:TM tm r v d n
 e4:tm 4=.ptr tc 0
 DD:tm 54=.sc (.string t.text)
theorem TX.two{tm:Nat->AV}{r v:Nat}{d:Int}{n tc:Nat}{t:Tok}(x:TX tm r v d n tc t){i j:Nat}(hi:54<i)(hj:54<j)(a b:AV):TX (aA tm [(i,a),(j,b)]) r v d n tc t/\aA tm [(i,a),(j,b)] j=b:=by
 refine⟨⟨x.m.aA _ (by simp;omega),?_,?_⟩,by simp only[aA];exact Mo _ _ _⟩
 ·simp only[aA];rw[mg (by omega),mg (by omega)];exact x.e4
 ·simp only[aA];rw[mg (by omega),mg (by omega)];exact x.DD
section
variable {h0 h:AH} {r tk:Nat} {L:List Tok} {en:Int} {dQ:AV} {bx:List Row} {v p:Nat} {rv:AV} {d0:Row} {M:Nat->Prop} {R:AE->AH->Prop} {tm:Nat->AV}
theorem Ji{d:Int}{kk tc:Nat}{t:Tok}(hL:oT L)(hb:qk L en kk)(hd:d=32-(kk:Int))(ie:kk<=32)(hp:p+1<=L.length)(hlen:bx.length<=p)(hM:∀id,SS r dQ id->M id)(U2:tc≠v)(hc:h.obj tc=some (wK t))
  (s:SI h0 h r tk L en dQ bx v (p+1) rv d0 [] (ay (⟨t.text,dZ,[],0,0,t.at_⟩,aW))) (x0:TX tm r v d bx.length tc t)
  (hR:Fin h0 r tk L en dQ bx R (xM L en kk (nD L en kk) p t)) :
  dE.yy (fun id=>M id\/h0.next<=id) (Ab.dP Pg [] R) (Ab.bT R) ⟨tm,[]⟩ h:=by
 unfold xM at hR
 have ns:bx.length+1<=p+1:=by omega
 have MJ:∀(tm:Nat->AV),TX tm r v d bx.length tc t->tm 70=.sc (.bool true)->(t.text=ch\/t.text=cZ)->dE.wQ (fun id=>M id\/h0.next<=id) (Ab.dP Pg [] R) (Ab.bT R) ⟨tm,[]⟩ h:=by
  intro tm x e Fi
  rw[zX Fi]at hR
  simp only[dE.wQ,e,aj,zD,zF,zC,zI]
  exact ON hL hM s x.m hR
 simp only[dE.yy,x0.DD,bB]
 obtain⟨x1,e1⟩:=x0.two (i:=71) (j:=70) (by decide) (by decide) (.sc (.bool (decide (t.text=ch)))) (.sc (.bool (decide (t.text=ch))))
 generalize aA tm [(71,.sc (.bool (decide (t.text=ch)))),(70,.sc (.bool (decide (t.text=ch))))]=pU at *
 simp only[dE.Dc,e1,aj,x1.DD,bB]
 refine⟨fun h1=>MJ pU x1 (by rw[e1,h1]) (.inl (of_decide_eq_true h1)),fun h1=>?_⟩
 obtain⟨x2,e2⟩:=x1.two (i:=72) (j:=70) (by decide) (by decide) (.sc (.bool (decide (t.text=cZ)))) (.sc (.bool (decide (t.text=cZ))))
 generalize aA pU [(72,.sc (.bool (decide (t.text=cZ)))),(70,.sc (.bool (decide (t.text=cZ))))]=fU at *
 by_cases h2:t.text=cZ
 ·exact MJ fU x2 (by rw[e2,zL h2]) (.inr h2)
 rw[zW (fun Fi=>Fi.elim (of_decide_eq_false h1) h2)]at hR
 clear MJ
 rw[zK h2]at e2
 simp only[dE.wQ,e2,aj,zE,zC,zD,zH]
 simp only[dE.Dd,x2.DD,bB]
 obtain⟨x3,e3⟩:=x2.two (i:=82) (j:=81) (by decide) (by decide) (.sc (.bool (decide (t.text=bJ)))) (.sc (.bool (decide (t.text=bJ))))
 generalize aA fU [(82,.sc (.bool (decide (t.text=bJ)))),(81,.sc (.bool (decide (t.text=bJ))))]=oA at *
 simp only[dE.De,e3,aj]
 refine⟨fun h3=>?_,fun h3=>?_⟩
 ·rw[zX (of_decide_eq_true h3)]at hR
  exact OQ hL hb hd ie ns hM s x3.m hR
 rw[zW (of_decide_eq_false h3)]at hR
 simp only[dE.yz,x3.DD,bB]
 obtain⟨x4,e4⟩:=x3.two (i:=102) (j:=101) (by decide) (by decide) (.sc (.bool (decide (t.text=bj)))) (.sc (.bool (decide (t.text=bj))))
 generalize aA oA [(102,.sc (.bool (decide (t.text=bj)))),(101,.sc (.bool (decide (t.text=bj))))]=S6 at *
 simp only[dE.wR,e4,aj]
 refine⟨fun h3=>?_,fun h4=>?_⟩
 ·rw[zX (of_decide_eq_true h3)]at hR
  exact Sm hL hb hd ie ns hM s x4.m hR
 rw[zW (of_decide_eq_false h4)]at hR
 simp only[dE.yD,x4.DD,bB]
 obtain⟨x5,e5⟩:=x4.two (i:=112) (j:=111) (by decide) (by decide) (.sc (.bool (decide (t.text=fK)))) (.sc (.bool (decide (t.text=fK))))
 generalize aA S6 [(112,.sc (.bool (decide (t.text=fK)))),(111,.sc (.bool (decide (t.text=fK))))]=tm5 at *
 simp only[dE.yE,e5,aj]
 refine⟨fun h3=>?_,fun h5=>?_⟩
 ·rw[zX (of_decide_eq_true h3)]at hR
  exact Wi hL hb hd ie ns hM s x5.m hR
 rw[zW (of_decide_eq_false h5)]at hR
 simp only[dE.A7,x5.DD,bB]
 obtain⟨x6,e6⟩:=x5.two (i:=125) (j:=124) (by decide) (by decide) (.sc (.bool (decide (t.text=cD)))) (.sc (.bool (decide (t.text=cD))))
 generalize aA tm5 [(125,.sc (.bool (decide (t.text=cD)))),(124,.sc (.bool (decide (t.text=cD))))]=tm6 at *
 simp only[dE.yF,e6,aj]
 refine⟨fun h3=>?_,fun h6=>?_⟩
 ·rw[zX (of_decide_eq_true h3)]at hR
  exact OO hL hM hp s x6.m hR
 rw[zW (of_decide_eq_false h6)]at hR
 simp only[dE.Df,x6.DD,bB]
 obtain⟨x7,e7⟩:=x6.two (i:=138) (j:=137) (by decide) (by decide) (.sc (.bool (decide (t.text=dz)))) (.sc (.bool (decide (t.text=dz))))
 generalize aA tm6 [(138,.sc (.bool (decide (t.text=dz)))),(137,.sc (.bool (decide (t.text=dz))))]=tm7 at *
 simp only[dE.A8,e7,aj]
 refine⟨fun h3=>?_,fun h7=>?_⟩
 ·rw[zX (of_decide_eq_true h3)]at hR
  exact LR hL hM hp s x7.m hR
 rw[zW (of_decide_eq_false h7)]at hR
 exact Sl hL hM hp ns U2 x7.e4 hc s x7.m hR
end
section
variable {h:AH} {r tk:Nat} {L:List Tok} {en:Int} {rv:AV} {rows:List Row} {p:Nat} {M:Nat->Prop} {R:AE->AH->Prop}
theorem OP{d:Int}{kk tc:Nat}{t:Tok}{h1:AH}{tm:Nat->AV}(hL:oT L)(hb:qk L en kk)(hd:d=32-(kk:Int))(ie:kk<=32)(hp:p+1<=L.length)(hlen:rows.length<=p)(hM:∀id,SS r rv id->M id)
  (lY:r<h.next) (e0:tm 0=.ptr r 0) (e1:tm 1=.sc (.int .i64 d)) (e4:tm 4=.ptr tc 0) (hc:h1.obj tc=some (wK t)) (f1:Fr h h1 (·=r)) (su:RS h1 r tk L en (p+1) rv rows)
  (ZT:∀id off n,rv=.sl id off n->id<h.next)
  (hR:Fin h r tk L en rv rows R (xM L en kk (nD L en kk) p t)) :
  dE.qA (fun id=>M id\/h.next<=id) (Ab.dP Pg [] R) (Ab.bT R) ⟨tm,[]⟩ h1:=by
 have Fw:=hL.len
 simp only[dE.qA,e4,ag,au,hc,ao,zG,zB,zA,ab]
 refine⟨ay (⟨t.text,dZ,[],0,0,t.at_⟩,aW),rfl,?_⟩
 simp only[aX]
 refine⟨rfl,?_⟩
 have hv:=AH.cm h1 (aN ([.string ⟨#[]⟩,.string ⟨#[]⟩,.slice none 0 0,.int .i64 0,.int .i64 0,.int .i64 0].map AV.sc) 6 42)
 simp only[aF,hv,eY,bG]
 refine⟨⟨.inr f1.next,rfl,rfl,by simp⟩,?_⟩
 have f2:=((Fr.refl (h:=h1) (S:=fun _=>False)).alloc (aN ([.string ⟨#[]⟩,.string ⟨#[]⟩,.slice none 0 0,.int .i64 0,.int .i64 0,.int .i64 0].map AV.sc) 6 42)).put (id:=h1.next) (off:=0) (cs:=ay (⟨t.text,dZ,[],0,0,t.at_⟩,aW)) (.inr (zU _))
 have Fa:=pj (off:=0) (cs:=ay (⟨t.text,dZ,[],0,0,t.at_⟩,aW)) hv
 have rM:h1.next<((h1.alloc (aN ([.string ⟨#[]⟩,.string ⟨#[]⟩,.slice none 0 0,.int .i64 0,.int .i64 0,.int .i64 0].map AV.sc) 6 42)).put h1.next 0 (ay (⟨t.text,dZ,[],0,0,t.at_⟩,aW))).next:=by simp[AH.uD,AH.bZ]
 generalize (h1.alloc (aN ([.string ⟨#[]⟩,.string ⟨#[]⟩,.slice none 0 0,.int .i64 0,.int .i64 0,.int .i64 0].map AV.sc) 6 42)).put h1.next 0 (ay (⟨t.text,dZ,[],0,0,t.at_⟩,aW))=h2 at *
 have Fa:h2.obj h1.next=some (aN (ay (⟨t.text,dZ,[],0,0,t.at_⟩,aW)) 6 42):=Fa
 have ki:RS h2 r tk L en (p+1) rv rows:=su.step (f2.mono fun _ h=>h.elim) (f2.obj su.r fun h=>h)
 have rO:=f2.obj hc fun h=>h
 have Qx:Fr h h2 (·=r):=f1.trans (f2.mono fun _ h=>h.elim)
 have htv:tc≠h1.next:=by have:=h1.lt _ _ hc;omega
 have vn:=f1.next
 generalize h1.next=v at *
 generalize kS:aA tm _=pU
 have g0:pU 0=.ptr r 0:=by rw[<-kS];simp[e0]
 have g1:pU 1=.sc (.int .i64 d):=by rw[<-kS];simp[e1]
 have g4:pU 4=.ptr tc 0:=by rw[<-kS];simp[e4]
 have g5:pU 5=.ptr v 0:=by rw[<-kS];simp
 clear kS
 simp only[dE.PH,g0,aD,ag,au,ki.r,ao,zG,zB,zA,ab,ki.rows.len.1,ki.rows.len.2,zH]
 generalize kS:aA pU _=fU
 have k0:fU 0=.ptr r 0:=by rw[<-kS];simp[g0]
 have k1:fU 1=.sc (.int .i64 d):=by rw[<-kS];simp[g1]
 have k4:fU 4=.ptr tc 0:=by rw[<-kS];simp[g4]
 have k5:fU 5=.ptr v 0:=by rw[<-kS];simp[g5]
 have k6:fU 6=.sc (.int .i64 rows.length):=by rw[<-kS];simp
 clear kS
 simp only[dE.vB,k0,k5,aD,ag,au,oF,ki.r,Fa,ao,mG,zG,zB,zA,ab]
 have Qh:(ay (⟨t.text,dZ,[],0,0,t.at_⟩,aW)).length=6:=rfl
 refine⟨by rw[Qh];exact zU _,?_⟩
 rw[show List.take 6 (List.drop 0 (ay (⟨t.text,dZ,[],0,0,t.at_⟩,aW)))=ay (⟨t.text,dZ,[],0,0,t.at_⟩,aW) from rfl]
 obtain⟨l,l1,l2,l3⟩:=ki.rows
 have vG:l.length=rows.length:=by rw[<-l2];simp
 have Dk:bN ay 6 42 h2 rv l:=l1
 refine I_ (f:=ay) (t:=(⟨t.text,dZ,[],0,0,t.at_⟩,aW)) cO (by decide) rfl (by decide) rfl Dk ?_ (by omega) ?_
 ·intro id off n he
  exact .inl (hM id (.inr ⟨n,by rw[he,((ki.yG he).1)]⟩))
 intro y h3 hy iy k3 n3
 have f3:Fr h2 h3 (fun i=>∃off n,rv=.sl i off n):=⟨n3,fun i hi hs=>k3 i hi fun off n he=>hs ⟨off,n,he⟩⟩
 have not:∀i o,h2.obj i=some o->o.ty≠42->¬ ∃off n,rv=.sl i off n:=by
  rintro i o ho du ⟨off,n,he⟩
  obtain⟨_,_,o',eO,ht⟩:=ki.rows.id he
  rw[ho]at eO;cases eO;exact du ht
 have r3:=f3.obj ki.r (not _ _ ki.r (show(105:Nat)≠42 by decide))
 simp only[k0,aD,ag,aF,r3,zG]
 obtain⟨yid,Ui⟩:=hy.sl (by simp)
 have ey:cM y=some [y]:=by rw[Ui];rfl
 simp only[ey,bG]
 refine⟨⟨.inl (hM r (.inl rfl)),by rw[Ui];rfl,rfl,by simp⟩,?_⟩
 have iz:v<h2.next:=rM
 have s3:SI h (h3.put r 3 [y]) r tk L en rv rows v (p+1) y ⟨t.text,dZ,[],0,0,t.at_⟩ [] (ay (⟨t.text,dZ,[],0,0,t.at_⟩,aW)):=by
  have f4:Fr h3 (h3.put r 3 [y]) (·=r):=Fr.refl.put (.inl rfl)
  have vr:v≠r:=by omega
  have yr:∀id,y=.sl id 0 (l++[((⟨t.text,dZ,[],0,0,t.at_⟩:Row),aW)]).length->¬id=r:=fun id he hid=>by
   have:=iy id _ _ he
   omega
  refine⟨Qx.mono (fun _ h=>.inl h) |>.trans (f3.mono fun id ⟨off,n,he⟩=>.inl (.inr ⟨n,by rw[he,(ki.yG he).1]⟩)) |>.trans (f4.mono fun _ h=>.inl (.inl h)),⟨?_,?_,l++[(⟨t.text,dZ,[],0,0,t.at_⟩,aW)],hy.aO f4 yr,by simp[l2],?_⟩,?_,?_,vn,lY⟩
  ·rw[pj r3];rfl
  ·exact f4.obj (f3.obj ki.t (not _ _ ki.t (show(126:Nat)≠42 by decide))) (ci ki.t ki.r (show(126:Nat)≠105 by decide))
  ·intro z hz
   rcases List.mem_append.1 hz with hz |hz
   ·rcases l3 z hz with h4 |⟨id,h4,ho⟩
    ·exact .inl h4
    ·exact .inr ⟨id,h4,f4.obj (f3.obj ho (not _ _ ho (show(44:Nat)≠42 by decide))) (ci ho ki.r (show(44:Nat)≠105 by decide))⟩
   ·simp only[List.mem_singleton]at hz
    subst hz
    exact .nil
  ·intro id off n he
   have:=iy id off n he
   omega
  ·refine f4.obj (f3.obj Fa ?_) vr
   rintro⟨off,n,he⟩
   have:=ZT v off n he
   omega
 have Yk:(h3.put r 3 [y]).obj tc=some (wK t):=by
  rw[AH.lM (ci rO ki.r (show(126:Nat)≠105 by decide))]
  exact f3.obj rO (not _ _ rO (show(126:Nat)≠42 by decide))
 generalize h3.put r 3 [y]=h4 at *
 generalize kS:aA fU _=oA
 have j0:oA 0=.ptr r 0:=by rw[<-kS];simp[k0]
 have j1:oA 1=.sc (.int .i64 d):=by rw[<-kS];simp[k1]
 have j4:oA 4=.ptr tc 0:=by rw[<-kS];simp[k4]
 have j5:oA 5=.ptr v 0:=by rw[<-kS];simp[k5]
 have j6:oA 6=.sc (.int .i64 rows.length):=by rw[<-kS];simp[k6]
 clear kS
 simp only[dE.A6,j4,ag,au,Yk,ao,zG,zB,zA,ab]
 refine Ji hL hb hd ie hp hlen hM htv Yk s3 ⟨⟨?_,?_,?_,?_⟩,?_,?_⟩ hR<;>simp[j0,j1,j4,j5,j6]
end
end
section
open Go.Ab
section
variable {L:List Tok} {en:Int}
theorem G1{kk:Nat}(hL:oT L)(ie:kk<=32)(hb:qk L en kk):Gx L en kk:=by
 intro h r tk rv rows M R p d hd hM nR hp X4 hR
 have lY:=h.lt _ _ nR.r
 have wV:=h.lt _ _ nR.t
 have Hv:=hM r (.inl rfl)
 have Fw:=hL.len
 rw[Ey]at hR
 apply dE.calls
 have hr:=nR.r
 have ht:=nR.t
 have tail:∀(t:Tok)(tm:Nat->AV)(tc:Nat)(h1:AH),iq L en p (iW L p)=.ok t->tm 0=.ptr r 0->tm 1=.sc (.int .i64 d)->tm 4=.ptr tc 0->h1.obj tc=some (wK t)->h.next<=tc->Fr h h1 (·=r)->h1.obj r=some (mm tk L.length (p+1:Nat) en rv)->dE.qA (fun id=>M id\/h.next<=id) (Ab.dP Pg [] R) (Ab.bT R) ⟨tm,[]⟩ h1:=by
  intro t tm tc h1 hx e0 e1 e4 hc Qo hf Dm
  rw[hx]at hR
  have:=(rG hx).1
  exact OP hL hb hd ie (by omega) X4 hM lY e0 e1 e4 hc hf (nR.step hf Dm) (fun id off n he=>(nR.yG he).2.2) hR
 have he:∀e,iq L en p (iW L p)=.error e->∀h',Fr h h' (·=r)->R (.cg (dU e)) h':=by
  intro e hx h' hf;rw[hx]at hR;exact hR _ (hf.mono fun _ h=>.inl h)
 have A1:∀(gY:AV->AV->Nat->AV),(∀a b,gY a b 0=.ptr r 0/\gY a b 1=.sc (.int .i64 d)/\gY a b 4=b)->aC Pg (fun id=>M id\/h.next<=id) 71 [.ptr r 0,.sc (.bool (iW L p))] h (fun t44 qH=>bw (some [.int .i64 0,.string ⟨#[]⟩,.int .i64 0]) 3 126 qH fun t46 yV=>
   aG (some 3) t46 t44 yV (fun id=>M id\/h.next<=id) fun qG=>dE.qA (fun id=>M id\/h.next<=id) (Ab.dP Pg [] R) (Ab.bT R) ⟨gY t44 t46,[]⟩ qG) (Ab.bT R []):=by
  intro gY kS
  refine⟨(·=r),fun _ h _=>h ▸ .inl Hv,rf rfl Fw hr ht ?_⟩
  cases hx:iq L en p (iW L p) with
  |error e=>intro h' h1;exact⟨rfl,he e hx h' h1⟩
  |ok t=>
   intro h' h1 h2
   have h3:=h1.next
   have h4:=h'.lt _ _ h2
   simp[-dE.qA,Tok.enc,AH.dy,h3]
   obtain⟨m0,m1,m4⟩:=kS (.agg [.sc (.int .i64 t.kind),.sc (.string t.text),.sc (.int .i64 t.at_)]) (.ptr h'.next 0)
   refine tail t _ h'.next _ hx m0 m1 m4 (by simp[AH.cS,AH.dy]) h3 ((h1.alloc _).put (.inr h3)) (by simp[AH.cS,AH.dy,nN h4,h2])
 have A2:∀(gY:AV->AV->Nat->AV),(∀a b,gY a b 0=.ptr r 0/\gY a b 1=.sc (.int .i64 d)/\gY a b 4=b)->bw (some [.int .i64 0,.string ⟨#[]⟩,.int .i64 0]) 3 126 h fun t49 sT=>aC Pg (fun id=>M id\/h.next<=id) 71 [.ptr r 0,.sc (.bool (iW L p))] sT (fun t51 pe=>
   aG (some 3) t49 t51 pe (fun id=>M id\/h.next<=id) fun vK=>dE.qA (fun id=>M id\/h.next<=id) (Ab.dP Pg [] R) (Ab.bT R) ⟨gY t51 t49,[]⟩ vK) (Ab.bT R []):=by
  intro gY kS
  simp only[aX]
  refine⟨rfl,(·=r),fun _ h _=>h ▸ .inl Hv,rf rfl Fw (p:=p) (L:=L) (tk:=tk) (en:=en) (rv:=rv) (by rw[AH.alloc_old lY];exact hr) (by rw[AH.alloc_old wV];exact ht) ?_⟩
  have hf:=(Fr.refl (h:=h) (S:=(·=r))).alloc (aN ([.int .i64 0,.string ⟨#[]⟩,.int .i64 0].map .sc) 3 126)
  cases hx:iq L en p (iW L p) with
  |error e=>intro h' h1;exact⟨rfl,he e hx h' (hf.trans (h1.mono fun _ h=>.inl h))⟩
  |ok t=>
   intro h' h1 h2
   have h3:=h1.obj (AH.cm _ _) (nN lY).2.1
   have h4:=h1.next
   simp only[AH.bZ]at h4
   simp[-dE.qA,Tok.enc,h3]
   obtain⟨m0,m1,m4⟩:=kS (.agg [.sc (.int .i64 t.kind),.sc (.string t.text),.sc (.int .i64 t.at_)]) (.ptr h.next 0)
   refine tail t _ h.next _ hx m0 m1 m4 (by simp[AH.cS,h3]) (zU _) ((hf.trans (h1.mono fun _ h=>.inl h)).put (.inr (zU _))) (by simp[AH.cS,nN lY,h2])
 by_cases aR:p<L.length
 ·by_cases hk:L[p].kind=1
  ·have hw:iW L p=true:=by simp[iW,aR,hk]
   simp only[hw]at A1 A2
   simp[-dE.qA,-aX,-aF,hr,ht,aR,jK Tok.bL,fm Tok.bL,Tok.enc,hk]
   exact⟨A1 _ (fun _ _=>by simp),A2 _ (fun _ _=>by simp)⟩
  ·have hw:iW L p=false:=by simp[iW,aR,hk]
   have KL:(L[p].kind==1)=false:=by simpa using hk
   simp only[hw]at A1 A2
   simp[-dE.qA,-aX,-aF,hr,ht,aR,jK Tok.bL,fm Tok.bL,Tok.enc,KL]
   exact⟨A1 _ (fun _ _=>by simp),A2 _ (fun _ _=>by simp)⟩
 ·have hw:iW L p=false:=by simp[iW,aR]
  simp only[hw]at A1 A2
  simp[-dE.qA,-aX,-aF,hr,aR]
  exact⟨A1 _ (fun _ _=>by simp),A2 _ (fun _ _=>by simp)⟩
theorem Q5(hL:oT L):∀kk,kk<=32->Gx L en kk:=by
 intro kk
 induction kk with
 |zero=>intro hk;exact G1 hL hk (HM hL fun k' he=>by omega)
 |succ kk ih=>intro hk;exact G1 hL hk (HM hL fun k' he=>by cases he;exact ih (by omega))
end
end
section
open Go.Ab
theorem MA(p:Int->Bool)(s:ByteArray):∀(n i:Nat),s.size-i=n->∀j,i<=j->j<iL p s i->p (hN s j)=true:=by
 intro n
 induction n with
 |zero=>intro i h j h1 h2;rw[iL,dif_neg (by omega)]at h2;omega
 |succ n ih=>
  intro i h j h1 h2
  have hi:i<s.size:=by omega
  rw[iL,dif_pos hi]at h2
  split at h2
  ·rename_i hp
   by_cases e:i=j
   ·subst e;simpa[hN,hi] using hp
   ·exact ih (i+1) (by omega) j (by omega) h2
  ·omega
theorem GR{s:ByteArray}{a b:Nat}{c:UInt8}(h:c∈(s.extract a b).data.toList):∃j,a<=j/\j<b/\j<s.size/\hN s j=c.toNat:=by
 rw[ByteArray.data_extract,Array.toList_extract,List.extract_eq_take_drop]at h
 obtain⟨k,hk,rfl⟩:=List.mem_iff_getElem.1 h
 simp only[yA,List.length_drop,Array.length_toList]at hk
 refine⟨a+k,by omega,by omega,by have:s.data.size=s.size:=rfl;omega,?_⟩
 have hs:a+k<s.size:=by have:s.data.size=s.size:=rfl;omega
 simp[hN,hs]
 rfl
theorem extract_size(s:ByteArray)(a b:Nat):(s.extract a b).size<=s.size:=by rw[ByteArray.size_extract];omega
def D3(s:ByteArray)(t:Tok):Prop:=t.text.size<=s.size/\(t.kind=2->∀c∈t.text.data.toList,48<=c.toNat/\c.toNat<=57)
theorem M4{s:ByteArray}{i j:Nat}{t:Tok}(h:sG s i (hN s i)=.tok t j):D3 s t:=by
 unfold sG at h
 split at h
 ·cases h
 split at h
 ·cases h
 split at h
 ·cases h;exact⟨extract_size _ _ _,fun h=>by cases h⟩
 split at h
 ·split at h
  ·cases h
  ·cases h
   refine⟨extract_size _ _ _,fun _ c hc=>?_⟩
   obtain⟨k,h1,h2,h3,h4⟩:=GR hc
   have:=MA isDigit s _ i rfl k h1 h2
   rw[h4]at this
   simp[isDigit]at this
   omega
 split at h
 ·cases h;exact⟨extract_size _ _ _,fun h=>by cases h⟩
 ·cases h
theorem My{s:ByteArray}:∀(n i:Nat)(acc l:List Tok),s.size-i=n->js s i acc=.ok l->acc.length<=i->i<=s.size->(∀t∈acc,D3 s t)->l.length<=s.size/\∀t∈l,D3 s t:=by
 intro n
 induction n using Nat.strongRecOn with
 |_ n ih=>
  intro i acc l hn h ha hi eQ
  rw[js]at h
  split at h
  ·rename_i aR
   split at h
   ·split at h
    ·rename_i j _ hj
     by_cases Qa:j<=s.size
     ·exact ih (s.size-j) (by omega) j acc l rfl h (by omega) Qa eQ
     ·rw[js,dif_neg (by omega)]at h;cases h;exact⟨by omega,eQ⟩
    ·cases h
   ·rename_i t j hl
    have UG:∀t'∈acc++[t],D3 s t':=by
     intro t' tV
     rcases List.mem_append.1 tV with tV |tV
     ·exact eQ t' tV
     ·simp only[List.mem_singleton]at tV;subst tV;exact M4 hl
    split at h
    ·rename_i hj
     by_cases Qa:j<=s.size
     ·exact ih (s.size-j) (by omega) j _ l rfl h (by simp;omega) Qa UG
     ·rw[js,dif_neg (by omega)]at h;cases h;exact⟨by simp;omega,UG⟩
    ·cases h
   ·cases h
  ·cases h;exact⟨by omega,eQ⟩
theorem Mx{s:ByteArray}{l:List Tok}(hs:s.size<=65536)(h:js s 0 []=.ok l):oT l:=by
 obtain⟨h1,h2⟩:=My _ 0 [] l rfl h (by simp) (by omega) (by simp)
 exact⟨by omega,fun t ht=>(h2 t ht).2,fun t ht=>zR (h2 t ht).1 hs⟩
def pY(s:ByteArray):j_ (List Row):=
 if 65536<s.size then .error (0,1)
 else match js s 0 [] with
 |.error p=>.error (p,90)
 |.ok L=>wl L s.size (L.length+1) 0 []
end
section
open Go.Ab
theorem Ug:iX Pg 20=some true:=by kernel_rfl
theorem OS:bE.code=.seq (Code.at bE.code [0]) (Code.at bE.code [1]):=by kernel_rfl
theorem Xo:Code.at bE.code [0]=.region 0 (wz (Code.at bE.code [0])) false:=by kernel_rfl
theorem Xp:∃o0 o1,wz (Code.at bE.code [0])=#[o0,o1]/\o0.op=.call { callee:=.builtin .recover,args:=#[],argTypes:=#[] }/\o0.dst=some 6/\o0.guard=none/\o1.op=.assign (.tmp 6)/\o1.dst=some 3/\o1.guard=none:=by
 refine⟨_,_,rfl,rfl,rfl,rfl,rfl,rfl,rfl⟩
theorem Jj{args:Array Value}{u u':FrameMode}{w:World}{R:Ending->FrameMode->World->Prop}(v:Value)
  (Nk:∀(c₀:Frame)(cs:List Frame),c₀.mode=u->(recoverD (c₀::cs)=none/\v=.nilIface/\u'=u)\/recoverD (c₀::cs)=some (v,{ c₀ with mode:=u' }::cs))
  (h:(Code.at bE.code [1]).wp Pg (fun e a w=>(e=.normal\/e=.ret)/\a.defers=[]/\R (.returned (.tuple #[])) u' w) (Act.put (Act.put { tmps:=args++Array.replicate (21-args.size) undef,defers:=[] } (some 6) v) (some 3) v) w) :
  CallsD Pg 45 args u w R:=by
 refine callsD_of_wpS (c:=bE.code) Try.func45 rfl ?_
 intro c₀ cs hu
 rw[OS]
 refine wpS_seq ?_
 rw[Xo]
 refine wpS_region ?_
 obtain⟨o0,o1,e1,a1,a2,a3,b1,b2,b3⟩:=Xp
 rw[e1]
 have fin:∀vW:List Frame,vW={ c₀ with mode:=u' }::cs->(Code.at bE.code [1]).wpS Pg (bodyPostS Pg Try.f45 c₀ cs R) (Act.put (Act.put { tmps:=args++Array.replicate (Try.f45.ntmps-args.size) undef,defers:=[] } (some 6) v) (some 3) v) vW w:=by
  intro vW yP
  refine wpS_of_wp (wp_mono h ?_)
  rintro e a w' ⟨he,hd,hR⟩
  have jA:(results Try.f45 a.tmps).run Pg w'=.ok (.tuple #[]) w':=by
   have:Try.f45.results=#[]:=rfl
   simp[results,this]
  rcases he with rfl |rfl
  ·exact⟨hd,u',yP,_,jA,hR⟩
  ·exact⟨hd,u',yP,_,jA,hR⟩
 have w0:∀y,Region.wanted o0 y=true:=fun y=>by unfold Region.wanted;rw[a3]
 have w1:∀y,Region.wanted o1 y=true:=fun y=>by unfold Region.wanted;rw[b3]
 have x0:∀(ev:Operand->Value)(w':World),(execOp ev o0).run Pg w'=.ok .recover w':=fun ev w'=>by
  obtain⟨d,op,t,p,af,gd⟩:=o0
  simp only at a1;subst a1
  simp[execOp,resolve,invoke,builtin]
 have x1:∀(ev:Operand->Value)(w':World),(execOp ev o1).run Pg w'=.ok (.value (ev (.tmp 6))) w':=fun ev w'=>by
  obtain⟨d,op,t,p,af,gd⟩:=o1
  simp only at b1;subst b1
  simp[execOp]
 have hJ:6<(args++Array.replicate (Try.f45.ntmps-args.size) undef).size:=by
  have:Try.f45.ntmps=21:=rfl
  simp;omega
 have step:∀vW:List Frame,vW={ c₀ with mode:=u' }::cs->wpOpsS Pg #[o0,o1] (Exit.thenS ((Code.at bE.code [1]).wpS Pg (bodyPostS Pg Try.f45 c₀ cs R)) (bodyPostS Pg Try.f45 c₀ cs R)) [1] (Act.put { tmps:=args++Array.replicate (Try.f45.ntmps-args.size) undef,defers:=[] } (some 6) v) vW w:=by
  intro vW yP
  simp only[wpOpsS,List.getElem?_toArray,zB,zA,w1,zV,x1,Oper.upon_value,b2]
  have e6:(Act.put { tmps:=args++Array.replicate (Try.f45.ntmps-args.size) undef,defers:=[] } (some 6) v).eval (.tmp 6)=v:=by
   show((args++Array.replicate (Try.f45.ntmps-args.size) undef).setIfInBounds 6 v).getD 6 undef=v
   rw[Array.getD_eq_getD_getElem?,Array.getElem?_setIfInBounds_self_of_lt hJ];rfl
  rw[e6]
  exact fin vW yP
 show wpOpsS Pg #[o0,o1] _ [0,1] _ _ _
 rw[wpOpsS]
 simp only[List.getElem?_toArray,zA,w0,zV,x0,a2]
 rcases Nk c₀ cs hu with⟨h1,rfl,rfl⟩ |h1
 ·rw[h1]
  exact step _ (by subst hu;rfl)
 ·rw[h1]
  exact step _ rfl
section
variable {h:AH} {M:Nat->Prop} {rc ac ec:Nat}
theorem H2{E:Env}{w:World}{gI:List Value}{u u':FrameMode}{v:Value}{av:AV}{R:AH->Prop}(hr:Rel E h w)(ha:db E [.ptr rc 0,.ptr ac 0,.ptr ec 0] gI)(hv:VR E av v)
  (Nk:∀(c₀:Frame)(cs:List Frame),c₀.mode=u->(recoverD (c₀::cs)=none/\v=.nilIface/\u'=u)\/recoverD (c₀::cs)=some (v,{ c₀ with mode:=u' }::cs))
  (hp:bE.k6 (fun id=>M id\/h.next<=id) (fun x s h'=>(x=.normal\/x=.ret)/\s.ds=[]/\R h') DN ⟨fk (fk (s0 [.ptr rc 0,.ptr ac 0,.ptr ec 0]).tm 6 av) 3 av,[]⟩ h) :
  CallsD Pg 45 gI.toArray u w fun e u2 w'=>(∃r,e=.returned r)/\u2=u'/\∃E' h',Step E h M w E' h' w'/\R h':=by
 refine Jj v Nk ?_
 have ar:AR E 21 ⟨fk (fk (s0 [.ptr rc 0,.ptr ac 0,.ptr ec 0]).tm 6 av) 3 av,[]⟩ (Act.put (Act.put { tmps:=gI.toArray++Array.replicate (21-gI.toArray.size) undef,defers:=[] } (some 6) v) (some 3) v):=
  ((Ii ha (n:=21) (by simp)).put (some 6) hv).put (some 3) hv
 refine wp_mono (pJ (W:=fun id=>M id\/h.next<=id) (pl:=bE.pl) Try.mixed (Code.at bE.code [1]) (fun x s h'=>(x=.normal\/x=.ret)/\s.ds=[]/\R h') DN _ h bE.ok ?_ E w _ hr ar) ?_
 ·exact Eq.mpr (bE.Iz _ _ _ _ _) hp
 rintro e a' w' (⟨x,E',h',s',a1,a2,a3,a4,a5,a6⟩ |⟨_,_,_,_,_,_,_,_,_,a5⟩)
 ·have hd:a'.defers=[]:=by
   have:=a3.ds
   rw[a5]at this
   generalize a'.defers=l at this
   cases this;rfl
  refine⟨?_,hd,⟨_,rfl⟩,rfl,E',h',?_,a6⟩
  ·rcases a4 with rfl |rfl
   ·cases e<;>first |exact .inl rfl |exact a1.elim
   ·cases e<;>first |exact .inr rfl |exact a1.elim
  ·exact(Step.refl hr).trans hr a2 (fun id aR hm=>by
    rcases hm with hm |hm
    ·exact .inl hm
    ·exact .inr hm)
 ·exact a5.elim
theorem Sn{R:AH->Prop}(hR:R h):Q0 Pg 45 [.ptr rc 0,.ptr ac 0,.ptr ec 0] h M R:=by
 intro E w gI hr ha
 refine H2 (v:=.nilIface) (av:=.sc .nilIface) hr ha (.sc _) (fun c₀ cs hu=>.inl ⟨by simp[recoverD,hu],rfl,rfl⟩) ?_
 have e3:(Go.Ab.fk (Go.Ab.fk (s0 [.ptr rc 0,.ptr ac 0,.ptr ec 0]).tm 6 (.sc .nilIface)) 3 (.sc .nilIface)) 3=.sc .nilIface:=by simp
 simp only[bE.k6,bE.t6,e3]
 refine⟨rfl,Ug,?_⟩
 simp only[bE.k5,bE.t5]
 have e8:∀tm:Nat->AV,aA tm [(7,.sc .nilIface),(8,.sc (.bool false))] 8=.sc (.bool false):=fun tm=>by simp
 rw[e8]
 simp only[aj,zE,zC,zH,zD]
 exact⟨.inl trivial,hR⟩
theorem So{R:AH->Prop}{e:Int×Int}{x y z:AV}(hM:M rc/\M ac/\M ec)(h1:h.obj rc=some (aN [x] 1 22))(h2:h.obj ac=some (aN [y] 1 3))(h3:h.obj ec=some (aN [z] 1 30))
  (hR:∀h',h'.obj rc=some (aN [aW] 1 22)->h'.obj ac=some (aN [.sc (.int .i64 e.1)] 1 3)->h'.obj ec=some (aN [.sc (.int .i64 e.2)] 1 30)->Fr h h' (fun id=>id=rc\/id=ac\/id=ec)->R h'):Q1 Pg 45 [.ptr rc 0,.ptr ac 0,.ptr ec 0] (dU e) h M R:=by
 intro E w gI u hr ha hv
 have n1:=h.lt _ _ h1
 have n2:=h.lt _ _ h2
 have n3:=h.lt _ _ h3
 have d12:=ci h1 h2 (show(22:Nat)≠3 by decide)
 have d13:=ci h1 h3 (show(22:Nat)≠30 by decide)
 have d23:=ci h2 h3 (show(3:Nat)≠30 by decide)
 refine H2 (v:=u) (av:=dU e) (u':=.panicking [{ v:=u,recovered:=true }]) hr ha hv (fun c₀ cs hu=>.inr (by simp[recoverD,hu])) ?_
 have e0:(Go.Ab.fk (Go.Ab.fk (s0 [.ptr rc 0,.ptr ac 0,.ptr ec 0]).tm 6 (dU e)) 3 (dU e)) 0=.ptr rc 0:=by simp
 have e1:(Go.Ab.fk (Go.Ab.fk (s0 [.ptr rc 0,.ptr ac 0,.ptr ec 0]).tm 6 (dU e)) 3 (dU e)) 1=.ptr ac 0:=by simp
 have e2:(Go.Ab.fk (Go.Ab.fk (s0 [.ptr rc 0,.ptr ac 0,.ptr ec 0]).tm 6 (dU e)) 3 (dU e)) 2=.ptr ec 0:=by simp
 have e3:(Go.Ab.fk (Go.Ab.fk (s0 [.ptr rc 0,.ptr ac 0,.ptr ec 0]).tm 6 (dU e)) 3 (dU e)) 3=dU e:=by simp
 generalize Go.Ab.fk (Go.Ab.fk (s0 [.ptr rc 0,.ptr ac 0,.ptr ec 0]).tm 6 (dU e)) 3 (dU e)=Ev at *
 simp only[bE.k6,bE.t6,e3]
 refine⟨Ug,?_⟩
 show bE.k5 _ _ _ ⟨aA Ev [(7,dU e),(8,.sc (.bool true))],[]⟩ h
 have g0:aA Ev [(7,dU e),(8,.sc (.bool true))] 0=.ptr rc 0:=by simp[e0]
 have g1:aA Ev [(7,dU e),(8,.sc (.bool true))] 1=.ptr ac 0:=by simp[e1]
 have g2:aA Ev [(7,dU e),(8,.sc (.bool true))] 2=.ptr ec 0:=by simp[e2]
 have g3:aA Ev [(7,dU e),(8,.sc (.bool true))] 3=dU e:=by simp[e3]
 have g8:aA Ev [(7,dU e),(8,.sc (.bool true))] 8=.sc (.bool true):=by simp
 generalize aA Ev [(7,dU e),(8,.sc (.bool true))]=pU at *
 simp only[bE.k5,bE.t5,g8,aj,zF,zC,zD,zI]
 simp only[bE.k4,bE.t4,g3]
 simp[-bE.k1,dU,AH.dy]
 have f4:=((Fr.refl (h:=h) (S:=fun _=>False)).alloc (aN [.sc (.int .i64 0),.sc (.int .i64 0)] 2 101)).put (id:=h.next) (off:=0) (cs:=[.sc (.int .i64 e.1),.sc (.int .i64 e.2)]) (.inr (zU _))
 have o4:((h.alloc (aN [.sc (.int .i64 0),.sc (.int .i64 0)] 2 101)).put h.next 0 [.sc (.int .i64 e.1),.sc (.int .i64 e.2)]).obj h.next=some (aN [.sc (.int .i64 e.1),.sc (.int .i64 e.2)] 2 101):=by simp[AH.cS,AH.dy]
 have p1:=f4.obj h1 fun h=>h
 have p2:=f4.obj h2 fun h=>h
 have p3:=f4.obj h3 fun h=>h
 generalize (h.alloc (aN [.sc (.int .i64 0),.sc (.int .i64 0)] 2 101)).put h.next 0 [.sc (.int .i64 e.1),.sc (.int .i64 e.2)]=h4 at *
 simp only[bE.k1,bE.t1]
 refine⟨fun _=>h.next,by simp[o4],?_⟩
 have q1:rc≠h.next:=by omega
 have q2:ac≠h.next:=by omega
 simp[g0,g1,g2,o4,p1,p2,p3,AH.cS,hM.1,hM.2.1,hM.2.2,q1,q2,d12,d13,d23,Ne.symm d12,Ne.symm d13,Ne.symm d23]
 refine⟨⟨.inl hM.1,fun i _=>q1⟩,⟨.inl hM.2.1,fun i _=>q2⟩,?_⟩
 refine hR _ ?_ ?_ ?_ ?_
 ·simp[AH.cS,p1,d12,d13]
 ·simp[AH.cS,p2,d23,Ne.symm d12]
 ·simp[AH.cS,p3,Ne.symm d13,Ne.symm d23]
 ·exact(((f4.mono fun _ h=>h.elim).put (.inl (.inl rfl))).put (.inl (.inr (.inl rfl)))).put (.inl (.inr (.inr rfl)))
end
end
section
open Go.Ab
section
variable (W:Nat->Prop) (Q:c7) (QP:cL) (s:St) (h:AH)
theorem Wr(C:KT):aw Pg 36 W aB.pl (Code.at aB.code [1,1,0]) (cC C Q) QP s h=aB.t11 s h (fun s h=>aB.t10 s h C (fun s h=>aB.t9 W s h C (fun s h=>aB.t8 Q s h C))) C:=by
 have o5:∀s h,aw Pg 36 W aB.pl (Code.at aB.code [1,1,0,1,0]) (cC C Q) QP s h=aB.t9 W s h C (fun s h=>aB.t8 Q s h C):=fun s h=>
  iP (a:=(Code.at aB.code [1,1,0,1,0,0])) (b:=(Code.at aB.code [1,1,0,1,0,1])) (by kernel_rfl) (fun s h=>aB.T2 W Q QP s h C) (aB.T1 W Q QP s h C _)
 have fF:∀s h,aw Pg 36 W aB.pl (Code.at aB.code [1,1,0,1]) (cC C Q) QP s h=aB.t10 s h C (fun s h=>aB.t9 W s h C (fun s h=>aB.t8 Q s h C)):=fun s h=>
  rh (o:=.tmp 14) (a:=(Code.at aB.code [1,1,0,1,0])) (b:=(Code.at aB.code [1,1,0,1,1])) (by kernel_rfl) (o5 s h) rfl (aB.PN W Q QP s h C (fun s h=>aB.t9 W s h C (fun s h=>aB.t8 Q s h C)))
 exact iP (a:=(Code.at aB.code [1,1,0,0])) (b:=(Code.at aB.code [1,1,0,1])) (by kernel_rfl) fF (aB.PL W Q QP s h _ C)
theorem L4(C:KT):aw Pg 36 W aB.pl (Code.at aB.code [1,1,1,1,1,0,0,0,0]) (cC C Q) QP s h=aB.t4 s h C (fun s h=>aB.t3 Q s h C):=
 iP (a:=(Code.at aB.code [1,1,1,1,1,0,0,0,0,0])) (b:=(Code.at aB.code [1,1,1,1,1,0,0,0,0,1])) (by kernel_rfl)
  (fun s h=>rh (o:=.tmp 29) (a:=(Code.at aB.code [1,1,1,1,1,0,0,0,0,1,0])) (b:=(Code.at aB.code [1,1,1,1,1,0,0,0,0,1,1])) (by kernel_rfl) rfl rfl (aB.IF W Q QP s h C)) (aB.ID W Q QP s h C _)
theorem Wq(K:KT)(KP:St->AV->AH->Prop):HG Pg 36 W (wz (Code.at aB.code [1,1,1,1,1,0,0,0,1,0])) (List.range (wz (Code.at aB.code [1,1,1,1,1,0,0,0,1,0])).size) K KP s h =
  (aC Pg W 46 [(s.tm 6),(.sc (.int .i64 0))] h (fun t8 h9=>K ⟨aA s.tm [(30,(s.tm 6)),(31,t8)],s.ds⟩ h9) (KP ⟨aA s.tm [(30,(s.tm 6))],s.ds⟩)):=by kernel_rfl
theorem Wp:aB.code=.seq (Code.at aB.code [0]) (Code.at aB.code [1]):=by kernel_rfl
theorem Wo:Code.at aB.code [1]=.seq (Code.at aB.code [1,0]) (Code.at aB.code [1,1]):=by kernel_rfl
theorem Wn:Code.at aB.code [1,1]=.seq (Code.at aB.code [1,1,0]) (Code.at aB.code [1,1,1]):=by kernel_rfl
theorem Wm:Code.at aB.code [1,1,1]=.seq (Code.at aB.code [1,1,1,0]) (Code.at aB.code [1,1,1,1]):=by kernel_rfl
theorem Wl:Code.at aB.code [1,1,1,1]=.seq (Code.at aB.code [1,1,1,1,0]) (Code.at aB.code [1,1,1,1,1]):=by kernel_rfl
theorem L3:Code.at aB.code [1,1,1,1,1]=.seq (Code.at aB.code [1,1,1,1,1,0]) (Code.at aB.code [1,1,1,1,1,1]):=by kernel_rfl
theorem L2:Code.at aB.code [1,1,1,1,1,0]=.block 0 (Code.at aB.code [1,1,1,1,1,0,0]):=by kernel_rfl
theorem L1:Code.at aB.code [1,1,1,1,1,0,0]=.loop aB.c1:=by kernel_rfl
theorem L0:aB.c1=.seq (Code.at aB.code [1,1,1,1,1,0,0,0,0]) (Code.at aB.code [1,1,1,1,1,0,0,0,1]):=by kernel_rfl
theorem Wk:Code.at aB.code [1,1,1,1,1,0,0,0,1]=.block 1 (Code.at aB.code [1,1,1,1,1,0,0,0,1,0]):=by kernel_rfl
theorem SE:Code.at aB.code [1,1,1,1,1,0,0,0,1,0]=.region 7 (wz (Code.at aB.code [1,1,1,1,1,0,0,0,1,0])) false:=by kernel_rfl
end
end
section
open Go.Ab
def Gy(s:ByteArray)(h:AH)(R:AE->AH->Prop):Prop:=
 rZ (pY s) (fun rows=>∀x h',fO h' x rows->cP (h.next<=·) x->Fr h h' (fun _=>False)->R (.ret (.dY [x,.sc (.int .i64 0),.sc (.int .i64 0)])) h')
  (fun e=>∀h',Fr h h' (fun _=>False)->R (.ret (.dY [aW,.sc (.int .i64 e.1),.sc (.int .i64 e.2)])) h')
abbrev o1(x:AV)(ty:TypeId):AO:=aN [x] 1 ty
structure RC (h:AH) (rc ac ec:Nat) (x y z:AV):Prop where
 r:h.obj rc=some (o1 x 22)
 a:h.obj ac=some (o1 y 3)
 e:h.obj ec=some (o1 z 30)
theorem RC.ne{h:AH}{rc ac ec:Nat}{x y z:AV}(c:RC h rc ac ec x y z):rc≠ac/\rc≠ec/\ac≠ec:=
 ⟨ci c.r c.a (show(22:Nat)≠3 by decide),ci c.r c.e (show(22:Nat)≠30 by decide),ci c.a c.e (show(3:Nat)≠30 by decide)⟩
theorem RC.res{h:AH}{rc ac ec:Nat}{x y z:AV}(c:RC h rc ac ec x y z){s:St}(e2:s.tm 2=.ptr rc 0)(e3:s.tm 3=.ptr ac 0)(e4:s.tm 4=.ptr ec 0){K:List AV->Prop}(hK:K [x,y,z]):lT Pg Try.f24.results.toList s h K:=by
 have:Try.f24.results.toList=[.cell 2 22,.cell 3 3,.cell 4 30]:=rfl
 rw[this]
 have a1:l7 Pg 22=some false:=by kernel_rfl
 have a2:l7 Pg 3=some false:=by kernel_rfl
 have a3:l7 Pg 30=some false:=by kernel_rfl
 simp[lT,e2,e3,e4,a1,a2,a3,c.r,c.a,c.e]
 exact hK
theorem RC.fr{h h':AH}{rc ac ec:Nat}{x y z:AV}(c:RC h rc ac ec x y z){S:Nat->Prop}(hf:Fr h h' S)(h1:¬S rc)(h2:¬S ac)(h3:¬S ec):RC h' rc ac ec x y z:=⟨hf.obj c.r h1,hf.obj c.a h2,hf.obj c.e h3⟩
section
variable {h:AH} {M:Nat->Prop} {R:AE->AH->Prop} {E:Env} {w:World}
theorem wm{hr:Rel E h w}{E':Env}{h':AH}{w':World}(hs:Step E h (fun id=>M id\/h.next<=id) w E' h' w'):Step E h M w E' h' w':=(Step.refl hr).trans hr hs fun _ _ hm=>hm
theorem SB(hr:Rel E h w){s:St}{h':AH}{rc ac ec:Nat}{x y z:AV}(pd:s.ds=[⟨.func 45,[.ptr rc 0,.ptr ac 0,.ptr ec 0],[]⟩])(e2:s.tm 2=.ptr rc 0)(e3:s.tm 3=.ptr ac 0)(e4:s.tm 4=.ptr ec 0)(c:RC h' rc ac ec x y z)
  (hR:R (.ret (.dY [x,y,z])) h'):JA 36 (fun id=>M id\/h.next<=id) E h w (bodyPostD Pg Try.f24 (pE E h M w R)) .ret s h':=by
 intro e E' w' a hx hs ha
 cases e<;>first |exact hx.elim |skip
 exact Kp (M':=fun _=>False) hr (wm (hr:=hr) hs) ha pd rfl (fun _ _ h=>h.elim) (Sn (R:=fun h2=>lT Pg Try.f24.results.toList s h2 fun vs=>R (.ret (jo vs)) h2) (c.res e2 e3 e4 hR))
theorem O1(hr:Rel E h w){s:St}{h':AH}{rc ac ec:Nat}{x y z:AV}(pd:s.ds=[])(e2:s.tm 2=.ptr rc 0)(e3:s.tm 3=.ptr ac 0)(e4:s.tm 4=.ptr ec 0)(c:RC h' rc ac ec x y z)
  (hR:R (.ret (.dY [x,y,z])) h'):JA 36 (fun id=>M id\/h.next<=id) E h w (bodyPostD Pg Try.f24 (pE E h M w R)) .ret s h':=by
 intro e E' w' a hx hs ha
 cases e<;>first |exact hx.elim |skip
 have hd:a.defers=[]:=by
  have:=ha.ds
  rw[pd]at this
  generalize a.defers=l at this
  cases this;rfl
 show Leaves Pg Try.f24 a.tmps _ a.defers _ _
 rw[hd]
 exact wO (wm (hr:=hr) hs) ha (c.res e2 e3 e4 hR)
theorem SD(hr:Rel E h w){s:St}{h':AH}{rc ac ec:Nat}{x y z:AV}{f:Int×Int}(pd:s.ds=[⟨.func 45,[.ptr rc 0,.ptr ac 0,.ptr ec 0],[]⟩])(e2:s.tm 2=.ptr rc 0)(e3:s.tm 3=.ptr ac 0)(e4:s.tm 4=.ptr ec 0)(c:RC h' rc ac ec x y z)
  (n1:h.next<=rc) (n2:h.next<=ac) (n3:h.next<=ec) (hf:Fr h h' (fun _=>False)) (hR:∀h2,Fr h h2 (fun _=>False)->R (.ret (.dY [aW,.sc (.int .i64 f.1),.sc (.int .i64 f.2)])) h2)
  {E':Env} {w':World} {a:Act} {u:Value} (hs:Step E h (fun id=>M id\/h.next<=id) w E' h' w') (ha:AR E' 36 s a) (hu:VR E' (dU f) u) :
  bodyPostD Pg Try.f24 (pE E h M w R) (.panic [{ v:=u,recovered:=false }]) a w':=by
 refine Kq (M':=fun id=>id=rc\/id=ac\/id=ec) hr (wm (hr:=hr) hs) ha pd rfl hu (fun id _ hm=>.inr ?_) (So ⟨.inl rfl,.inr (.inl rfl),.inr (.inr rfl)⟩ c.r c.a c.e ?_)
 ·rcases hm with hm |hm |hm<;>omega
 ·intro h2 a1 a2 a3 f2
  refine RC.res ⟨a1,a2,a3⟩ e2 e3 e4 (hR h2 (hf.trans (f2.mono fun id hid=>.inr ?_)))
  rcases hid with hm |hm |hm<;>omega
end
end
section
open Go.Ab
theorem fO.cell{h:AH}{x:AV}{rows:List Row}(hr:fO h x rows):cM x=some [x]/\cG x=true:=by
 obtain⟨l,h1,_,_⟩:=hr
 rcases h1 with⟨rfl,_⟩ |⟨id,rfl,_⟩<;>exact⟨rfl,rfl⟩
abbrev D8(rc ac ec:Nat):List fR:=[⟨.func 45,[.ptr rc 0,.ptr ac 0,.ptr ec 0],[]⟩]
structure T8 (s:St) (rc ac ec r:Nat) (tk:AV):Prop where
 ds:s.ds=D8 rc ac ec
 e2:s.tm 2=.ptr rc 0
 e3:s.tm 3=.ptr ac 0
 e4:s.tm 4=.ptr ec 0
 e5:s.tm 5=tk
 e6:s.tm 6=.ptr r 0
theorem T8.aA{s:St}{rc ac ec r:Nat}{tk:AV}(t:T8 s rc ac ec r tk)(l:List (Nat×AV))(hl:∀x∈l,6<x.1):T8 ⟨aA s.tm l,s.ds⟩ rc ac ec r tk:=by
 have key:∀(l:List (Nat×AV))(tm:Nat->AV)(i:Nat),i<=6->(∀x∈l,6<x.1)->Go.Ab.aA tm l i=tm i:=by
  intro l
  induction l with
  |nil=>intro tm i _ _;rfl
  |cons x l ih=>
   intro tm i hi hl
   have hx:=hl x (by simp)
   show Go.Ab.aA (Go.Ab.fk tm x.1 x.2) l i=tm i
   rw[ih _ i hi (fun y hy=>hl y (by simp[hy])),mg (by omega)]
 exact⟨t.ds,(key l _ _ (by omega) hl).trans t.e2,(key l _ _ (by omega) hl).trans t.e3,(key l _ _ (by omega) hl).trans t.e4,(key l _ _ (by omega) hl).trans t.e5,(key l _ _ (by omega) hl).trans t.e6⟩
section
variable {h:AH} {M:Nat->Prop} {R:AE->AH->Prop} {E:Env} {w:World}
theorem H7(hr:Rel E h w){s:St}{h':AH}{rc ac ec r:Nat}{tk x y z rv c0 c1 c2:AV}{rows:List Row}(t:T8 s rc ac ec r tk)(c:RC h' rc ac ec x y z)(n1:h.next<=rc)(n2:h.next<=ac)(n3:h.next<=ec)(fG:h'.obj r=some (aN [c0,c1,c2,rv] 4 105))(DU:fO h' rv rows)(hf:Fr h h' (fun _=>False))
  (hR:∀h2,fO h2 rv rows->Fr h h2 (fun _=>False)->R (.ret (.dY [rv,.sc (.int .i64 0),.sc (.int .i64 0)])) h2) :
  TC Pg 36 (fun id=>M id\/h.next<=id) E h w (Code.at aB.code [1,1,1,1,1,1]) (bodyPostD Pg Try.f24 (pE E h M w R)) s h':=by
 refine QL Try.mixed hr (pl:=aB.pl) (by kernel_rfl) ?_
 rw[aB.DQ]
 obtain⟨d12,d13,d23⟩:=c.ne
 simp only[aB.k1,aB.t1,t.e6,t.e2,t.e3,t.e4,aD,ag,au,fG,ao,zG,zB,zA,ab,aF,c.r,DU.cell.1,bG]
 refine⟨⟨.inr n1,by rw[List.all_cons,DU.cell.2];rfl,rfl,by simp⟩,?_⟩
 have ca:=c.a
 have ce:=c.e
 have cr:=c.r
 simp only[AH.cS,d12,d13,d23,Ne.symm d12,Ne.symm d13,Ne.symm d23,if_false,ca,ce,dC,bG]
 refine⟨⟨.inr n2,rfl,rfl,by simp⟩,⟨.inr n3,rfl,rfl,by simp⟩,?_⟩
 have f3:Fr h' (((h'.put rc 0 [rv]).put ac 0 [.sc (.int .i64 0)]).put ec 0 [.sc (.int .i64 0)]) (fun id=>id=rc\/id=ac\/id=ec):=((Fr.refl.put (.inl (.inl rfl))).put (.inl (.inr (.inl rfl)))).put (.inl (.inr (.inr rfl)))
 have pW:fO (((h'.put rc 0 [rv]).put ac 0 [.sc (.int .i64 0)]).put ec 0 [.sc (.int .i64 0)]) rv rows:=by
  refine DU.fr f3 (fun id he hid=>?_) (fun id o ho ht hid=>?_)
  ·obtain⟨_,_,o,ho,ht⟩:=DU.id he
   rcases hid with h1 |h1 |h1
   ·exact ci ho cr (by rw[ht];show(42:Nat)≠22;decide) h1
   ·exact ci ho ca (by rw[ht];show(42:Nat)≠3;decide) h1
   ·exact ci ho ce (by rw[ht];show(42:Nat)≠30;decide) h1
  ·rcases hid with h1 |h1 |h1
   ·exact ci ho cr (by rw[ht];show(44:Nat)≠22;decide) h1
   ·exact ci ho ca (by rw[ht];show(44:Nat)≠3;decide) h1
   ·exact ci ho ce (by rw[ht];show(44:Nat)≠30;decide) h1
 have t3:=t.aA [(32,.ptr r 0),(33,.ptr r 0),(34,.ptr r 3),(35,rv)] (by simp)
 refine SB (x:=rv) (y:=.sc (.int .i64 0)) (z:=.sc (.int .i64 0)) hr t3.ds t3.e2 t3.e3 t3.e4 ⟨?_,?_,?_⟩ (hR _ pW (hf.trans (f3.mono fun id hid=>.inr ?_)))
 ·simp[AH.cS,cr,d12,d13]
 ·simp[AH.cS,ca,d23,Ne.symm d12]
 ·simp[AH.cS,ce,Ne.symm d13,Ne.symm d23]
 ·rcases hid with h1 |h1 |h1<;>omega
theorem O2{L:List Tok}{en:Int}(hr:Rel E h w)(hL:oT L){s:St}{h1:AH}{rc ac ec r tk:Nat}(t:T8 s rc ac ec r (.sl tk 0 L.length))(c:RC h1 rc ac ec aW (.sc (.int .i64 0)) (.sc (.int .i64 0)))(n1:h.next<=rc)(n2:h.next<=ac)(n3:h.next<=ec)(n4:h.next<=r)
  (rs:RS h1 r tk L en 0 aW []) (hf:Fr h h1 (fun _=>False))
  (hR:rZ (wl L en (L.length+1) 0 []) (fun rows=>∀x h',fO h' x rows->cP (h.next<=·) x->Fr h h' (fun _=>False)->R (.ret (.dY [x,.sc (.int .i64 0),.sc (.int .i64 0)])) h')
  (fun e=>∀h',Fr h h' (fun _=>False)->R (.ret (.dY [aW,.sc (.int .i64 e.1),.sc (.int .i64 e.2)])) h')) :
  TC Pg 36 (fun id=>M id\/h.next<=id) E h w (Code.at aB.code [1,1,1,1,1]) (bodyPostD Pg Try.f24 (pE E h M w R)) s h1:=by
 rw[L3]
 refine Gw ?_
 refine Ar L2 ?_
 generalize hX:wl L en (L.length+1) 0 []=X at hR
 have Fw:=hL.len
 refine HW (ι:=Nat×Nat×List Row×AV) L1 (fun x s' h'=>T8 s' rc ac ec r (.sl tk 0 L.length)/\RC h' rc ac ec aW (.sc (.int .i64 0)) (.sc (.int .i64 0))/\RS h' r tk L en x.2.1 x.2.2.2 x.2.2.1/\Fr h h' (fun _=>False)/\cP (h.next<=·) x.2.2.2 /\
  x.2.1<=L.length/\L.length<x.2.1+x.1/\x.2.2.1.length<=x.2.1/\wl L en x.1 x.2.1 x.2.2.1=X) (fun x=>x.1) (L.length+1,0,[],aW) ?_ ?_
 ·exact⟨t,c,rs,hf,(fun _ _ _ he=>by cases he),Nat.zero_le _,by simp,by simp,hX⟩
 rintro⟨n,p,acc,rv⟩ s' h' ⟨t',c',oX,lZ,vD,hp,hpn,qt,Bz⟩
 simp only at oX vD hp hpn qt Bz
 cases n with
 |zero=>omega
 |succ n=>
  simp only[wl]at Bz
  refine pD Try.mixed hr (pl:=aB.pl) L0 (by kernel_rfl) ?_
  rw[L4]
  have hl:bK (.sl tk 0 L.length)=fun K=>K (.sc (.int .i64 L.length)):=rfl
  simp only[aB.t4,t'.e6,t'.e5,aD,ag,au,oX.r,ao,zG,zB,zA,ab,CO,zH,G8,aZ]
  by_cases aR:p<L.length
  ·rw[zX aR]at Bz
   have hd:decide ((p:Int)<(L.length:Nat))=true:=by simpa using aR
   rw[hd]
   have t2:=t'.aA [(23,.ptr r 0),(24,.ptr r 0),(25,.ptr r 1),(26,.sc (.int .i64 p)),(27,.sl tk 0 L.length),(28,.sc (.int .i64 L.length)),(29,.sc (.bool true))] (by simp)
   have Lo:Go.Ab.aA s'.tm [(23,.ptr r 0),(24,.ptr r 0),(25,.ptr r 1),(26,.sc (.int .i64 p)),(27,.sl tk 0 L.length),(28,.sc (.int .i64 L.length)),(29,.sc (.bool true))] 29=.sc (.bool true):=by simp
   generalize Go.Ab.aA s'.tm [(23,.ptr r 0),(24,.ptr r 0),(25,.ptr r 1),(26,.sc (.int .i64 p)),(27,.sl tk 0 L.length),(28,.sc (.int .i64 L.length)),(29,.sc (.bool true))]=fU at *
   simp only[aB.t3,Lo,aj,zF,zC,zD,zI]
   refine Ar Wk ?_
   refine LO hr SE (K:=fun s2 h2=>T8 s2 rc ac ec r (.sl tk 0 L.length)/\RC h2 rc ac ec aW (.sc (.int .i64 0)) (.sc (.int .i64 0))/\∃p2 new AF,lV L en 32 p=.ok (p2,new)/\RS h2 r tk L en p2 AF (acc++new)/\Fr h h2 (fun _=>False)/\cP (h.next<=·) AF)
    (KP:=fun s2 v h2=>T8 s2 rc ac ec r (.sl tk 0 L.length)/\RC h2 rc ac ec aW (.sc (.int .i64 0)) (.sc (.int .i64 0))/\Fr h h2 (fun _=>False)/\∃e,lV L en 32 p=.error e/\v=dU e) ?_ ?_ ?_
   ·rintro s2 h2 E2 w2 a2 ⟨t3,c3,p2,new,AF,g1,g2,g3,g4⟩ oI ji
    obtain⟨b1,b2,b3⟩:=Ex 32 p p2 new g1
    rw[g1]at Bz
    exact⟨(n,p2,acc++new,AF),s2,h2,E2,by simp,⟨t3,c3,g2,g3,g4,b2,by simp only;omega,by simp;omega,Bz⟩,oI,ji⟩
   ·rintro s2 v h2 E2 w2 a2 u ⟨t3,c3,f3,e,g1,rfl⟩ oI ji hu
    rw[g1]at Bz
    rw[<-Bz]at hR
    exact SD hr t3.ds t3.e2 t3.e3 t3.e4 c3 n1 n2 n3 f3 hR oI ji hu
   ·rw[Wq]
    rw[t2.e6]
    have not:∀i o,h'.obj i=some o->o.ty≠105->o.ty≠42->¬SS r rv i:=by
     rintro i o ho yT vM (rfl |⟨m,he⟩)
     ·exact ci ho oX.r yT rfl
     ·obtain⟨_,_,o',eO,ht⟩:=oX.rows.id he
      rw[ho]at eO;cases eO;exact vM ht
    refine⟨SS r rv,fun id hid _=>.inr ?_,Q5 (en:=en) hL 32 (by omega) (rv:=rv) (rows:=acc) (p:=p) (by omega) (fun _ h=>h) oX hp qt ?_⟩
    ·rcases hid with hid |⟨m,hid⟩
     ·omega
     ·exact vD id 0 m hid
    ·have Yu:∀h2,Fr h' h2 (SS r rv)->Fr h h2 (fun _=>False):=fun h2 f2=>lZ.trans (f2.mono fun id hid=>.inr (by
      rcases hid with hid |⟨m,hid⟩
      ·omega
      ·exact vD id 0 m hid))
     have XE:∀h2,Fr h' h2 (SS r rv)->RC h2 rc ac ec aW (.sc (.int .i64 0)) (.sc (.int .i64 0)):=fun h2 f2=>c'.fr f2 (not _ _ c'.r (by show(22:Nat)≠105;decide) (by show(22:Nat)≠42;decide)) (not _ _ c'.a (by show(3:Nat)≠105;decide) (by show(3:Nat)≠42;decide)) (not _ _ c'.e (by show(30:Nat)≠105;decide) (by show(30:Nat)≠42;decide))
     cases gh:lV L en 32 p with
     |error e=>
      intro h2 f2
      exact⟨t2.aA [(30,.ptr r 0)] (by simp),XE h2 f2,Yu h2 f2,e,rfl,rfl⟩
     |ok x=>
      obtain⟨p2,new⟩:=x
      intro h2 AF ki f2 i2
      refine⟨t2.aA [(30,.ptr r 0),(31,_)] (by simp),XE h2 f2,p2,new,AF,rfl,ki,Yu h2 f2,fun id off m he=>?_⟩
      have h0:=(ki.yG he).1
      rcases i2 id off m he with(hid |⟨m2,hid⟩) |hid
      ·omega
      ·exact vD id 0 m2 hid
      ·exact zR lZ.next hid
  ·rw[zW aR]at Bz
   have hd:decide ((p:Int)<(L.length:Nat))=false:=by simpa using aR
   rw[hd]
   rw[<-Bz]at hR
   have t2:=t'.aA [(23,.ptr r 0),(24,.ptr r 0),(25,.ptr r 1),(26,.sc (.int .i64 p)),(27,.sl tk 0 L.length),(28,.sc (.int .i64 L.length)),(29,.sc (.bool false))] (by simp)
   have Lo:Go.Ab.aA s'.tm [(23,.ptr r 0),(24,.ptr r 0),(25,.ptr r 1),(26,.sc (.int .i64 p)),(27,.sl tk 0 L.length),(28,.sc (.int .i64 L.length)),(29,.sc (.bool false))] 29=.sc (.bool false):=by simp
   generalize Go.Ab.aA s'.tm [(23,.ptr r 0),(24,.ptr r 0),(25,.ptr r 1),(26,.sc (.int .i64 p)),(27,.sl tk 0 L.length),(28,.sc (.int .i64 L.length)),(29,.sc (.bool false))]=fU at *
   simp only[aB.t3,Lo,aj,zE,zC,zD,zH]
   intro e2 E2 w2 a2 hx oI ji
   cases e2<;>first |exact hx.elim |skip
   cases hx
   exact H7 (M:=M) hr t2 c' n1 n2 n3 oX.r oX.rows lZ (fun h2 r2 f2=>hR rv h2 r2 vD f2) E2 w2 a2 oI ji
end
end
section
open Go.Ab
section
variable {h:AH} {M:Nat->Prop} {R:AE->AH->Prop} {E:Env} {w:World}
theorem LZ{en:Int}(hr:Rel E h w){s:St}{h1:AH}{rc ac ec r:Nat}(t:T8 s rc ac ec r aW)(c:RC h1 rc ac ec aW (.sc (.int .i64 0)) (.sc (.int .i64 0)))(n1:h.next<=rc)(n2:h.next<=ac)(n3:h.next<=ec)
  (fG:h1.obj r=some (aN [aW,.sc (.int .i64 0),.sc (.int .i64 en),aW] 4 105)) (hf:Fr h h1 (fun _=>False))
  (hR:∀x h',fO h' x []->cP (h.next<=·) x->Fr h h' (fun _=>False)->R (.ret (.dY [x,.sc (.int .i64 0),.sc (.int .i64 0)])) h') :
  TC Pg 36 (fun id=>M id\/h.next<=id) E h w (Code.at aB.code [1,1,1,1,1]) (bodyPostD Pg Try.f24 (pE E h M w R)) s h1:=by
 rw[L3]
 refine Gw ?_
 refine Ar L2 ?_
 refine HW (ι:=Unit) L1 (fun x s' h'=>s'=s/\h'=h1) (fun _=>0) () ⟨rfl,rfl⟩ ?_
 rintro _ s' h' ⟨e1,e2⟩
 rw[e1,e2]
 clear e1 e2
 refine pD Try.mixed hr (pl:=aB.pl) L0 (by kernel_rfl) ?_
 rw[L4]
 simp only[aB.t4,t.e6,t.e5,aD,ag,au,fG,ao,zG,zB,zA,ab,AC,zH,EJ,aZ]
 have hd:decide ((0:Int)<((0:Nat):Int))=false:=by decide
 rw[hd]
 have t2:=t.aA [(23,.ptr r 0),(24,.ptr r 0),(25,.ptr r 1),(26,.sc (.int .i64 0)),(27,aW),(28,.sc (.int .i64 (0:Nat))),(29,.sc (.bool false))] (by simp)
 have Lo:Go.Ab.aA s.tm [(23,.ptr r 0),(24,.ptr r 0),(25,.ptr r 1),(26,.sc (.int .i64 0)),(27,aW),(28,.sc (.int .i64 (0:Nat))),(29,.sc (.bool false))] 29=.sc (.bool false):=by simp
 generalize Go.Ab.aA s.tm [(23,.ptr r 0),(24,.ptr r 0),(25,.ptr r 1),(26,.sc (.int .i64 0)),(27,aW),(28,.sc (.int .i64 (0:Nat))),(29,.sc (.bool false))]=fU at *
 simp only[aB.t3,Lo,aj,zE,zC,zD,zH]
 intro e2 E2 w2 a2 hx oI ji
 cases e2<;>first |exact hx.elim |skip
 cases hx
 exact H7 (M:=M) hr t2 c n1 n2 n3 fG fO.nil hf (fun h2 r2 f2=>hR aW h2 r2 (fun _ _ _ he=>by cases he) f2) E2 w2 a2 oI ji
end
section
variable (h:AH) (M:Nat->Prop) (R:AE->AH->Prop) (E:Env) (w:World)
def K8:KT:=TC Pg 36 (fun id=>M id\/h.next<=id) E h w (Code.at aB.code [1,1,1]) (bodyPostD Pg Try.f24 (pE E h M w R))
def Y8:KT:=fun s h3=>aB.t9 (fun id=>M id\/h.next<=id) s h3 (K8 h M R E w) (fun s h3=>aB.t8 (JA 36 (fun id=>M id\/h.next<=id) E h w (bodyPostD Pg Try.f24 (pE E h M w R))) s h3 (K8 h M R E w))
def X8:KT:=fun s h3=>aB.t11 s h3 (fun s h3=>aB.t10 s h3 (K8 h M R E w) (Y8 h M R E w)) (K8 h M R E w)
end
structure S8 (tm:Nat->AV) (s:ByteArray) (rc ac ec:Nat):Prop where
 e0:tm 0=.sc (.string s)
 e2:tm 2=.ptr rc 0
 e3:tm 3=.ptr ac 0
 e4:tm 4=.ptr ec 0
theorem tO{i:Nat}:∀(l:List (Nat×AV))(tm:Nat->AV),(∀x∈l,x.1≠i)->aA tm l i=tm i
 |[],_,_=>rfl
 |x::l,tm,hl=>by
  have hx:=hl x (by simp)
  show aA (fk tm x.1 x.2) l i=tm i
  rw[tO l _ (fun y hy=>hl y (by simp[hy])),mg (fun e=>hx e.symm)]
theorem S8.aA{tm:Nat->AV}{s:ByteArray}{rc ac ec:Nat}(t:S8 tm s rc ac ec)(l:List (Nat×AV))(hl:∀x∈l,4<x.1):S8 (aA tm l) s rc ac ec:=
 ⟨(tO l tm fun x hx=>by have:=hl x hx;omega).trans t.e0,(tO l tm fun x hx=>by have:=hl x hx;omega).trans t.e2,(tO l tm fun x hx=>by have:=hl x hx;omega).trans t.e3,(tO l tm fun x hx=>by have:=hl x hx;omega).trans t.e4⟩
section
variable {h:AH} {M:Nat->Prop} {R:AE->AH->Prop} {E:Env} {w:World} {s:ByteArray} {rc ac ec:Nat}
theorem GD(hr:Rel E h w){tm:Nat->AV}{h1 h2:AH}{x:AV}{a e:Int}(t:S8 tm s rc ac ec)(n1:h.next<=rc)(n2:h.next<=ac)(n3:h.next<=ec)(f0:Fr h h1 (fun _=>False))(c0:RC h1 rc ac ec aW (.sc (.int .i64 0)) (.sc (.int .i64 0)))(f2:Fr h1 h2 (fun _=>False))
  (hk:∀fU h3,S8 fU s rc ac ec->fU 5=x->RC h3 rc ac ec aW (.sc (.int .i64 a)) (.sc (.int .i64 e))->Fr h h3 (fun _=>False)->(∀id o,h2.obj id=some o->o.ty≠3->o.ty≠30->h3.obj id=some o)->X8 h M R E w ⟨fU,[]⟩ h3) :
  dm (.dY [x,.sc (.int .i64 a),.sc (.int .i64 e)]) 0 fun t33=>dm (.dY [x,.sc (.int .i64 a),.sc (.int .i64 e)]) 1 fun t34=>dm (.dY [x,.sc (.int .i64 a),.sc (.int .i64 e)]) 2 fun t35=>
    aG (some 1) (.ptr ac 0) t34 h2 (fun id=>M id\/h.next<=id) fun vM=>aG (some 1) (.ptr ec 0) t35 vM (fun id=>M id\/h.next<=id) fun sU=>
    TC Pg 36 (fun id=>M id\/h.next<=id) E h w (Code.at aB.code [1,1]) (bodyPostD Pg Try.f24 (pE E h M w R)) ⟨aA tm [(8,.sc (.string s)),(9,.dY [x,.sc (.int .i64 a),.sc (.int .i64 e)]),(7,.dY [x,.sc (.int .i64 a),.sc (.int .i64 e)]),(10,t33),(11,t34),(12,t35),(5,t33)],[]⟩ sU:=by
 have c2:=c0.fr f2 (fun h=>h) (fun h=>h) (fun h=>h)
 obtain⟨d12,d13,d23⟩:=c0.ne
 have f5:=c2.e
 simp only[dN,zA,zB,ab,aF,c2.a,dC,bG,AH.cS,Ne.symm d23,if_false,f5]
 refine⟨⟨.inr n2,rfl,rfl,by simp⟩,⟨.inr n3,rfl,rfl,by simp⟩,?_⟩
 have t2:=t.aA [(8,.sc (.string s)),(9,.dY [x,.sc (.int .i64 a),.sc (.int .i64 e)]),(7,.dY [x,.sc (.int .i64 a),.sc (.int .i64 e)]),(10,x),(11,.sc (.int .i64 a)),(12,.sc (.int .i64 e)),(5,x)] (by simp)
 have t25:Go.Ab.aA tm [(8,.sc (.string s)),(9,.dY [x,.sc (.int .i64 a),.sc (.int .i64 e)]),(7,.dY [x,.sc (.int .i64 a),.sc (.int .i64 e)]),(10,x),(11,.sc (.int .i64 a)),(12,.sc (.int .i64 e)),(5,x)] 5=x:=by simp
 have cc:RC ((h2.put ac 0 [.sc (.int .i64 a)]).put ec 0 [.sc (.int .i64 e)]) rc ac ec aW (.sc (.int .i64 a)) (.sc (.int .i64 e)):=
  ⟨by simp[AH.cS,c2.r,d12,d13],by simp[AH.cS,c2.a,d23],by simp[AH.cS,c2.e,Ne.symm d23]⟩
 have ff:Fr h ((h2.put ac 0 [.sc (.int .i64 a)]).put ec 0 [.sc (.int .i64 e)]) (fun _=>False):=((f0.trans (f2.mono fun _ h=>h.elim)).put (.inr n2)).put (.inr n3)
 have dH:∀id o,h2.obj id=some o->o.ty≠3->o.ty≠30->((h2.put ac 0 [.sc (.int .i64 a)]).put ec 0 [.sc (.int .i64 e)]).obj id=some o:=fun id o ho h3 mS=>by
  rw[AH.lM (ci ho c2.e mS),AH.lM (ci ho c2.a h3)]
  exact ho
 have:=hk _ _ t2 t25 cc ff dH
 generalize Go.Ab.aA tm [(8,.sc (.string s)),(9,.dY [x,.sc (.int .i64 a),.sc (.int .i64 e)]),(7,.dY [x,.sc (.int .i64 a),.sc (.int .i64 e)]),(10,x),(11,.sc (.int .i64 a)),(12,.sc (.int .i64 e)),(5,x)]=oA at *
 refine pD Try.mixed hr (pl:=aB.pl) Wn (by kernel_rfl) ?_
 rw[Wr]
 exact this
theorem GF(hr:Rel E h w){a e:Int}(du:e≠0)(hR2:∀h',Fr h h' (fun _=>False)->R (.ret (.dY [aW,.sc (.int .i64 a),.sc (.int .i64 e)])) h'){fU:Nat->AV}{h3:AH}(t:S8 fU s rc ac ec)(n1:h.next<=rc)(n2:h.next<=ac)(n3:h.next<=ec)
  (c3:RC h3 rc ac ec aW (.sc (.int .i64 a)) (.sc (.int .i64 e))) (f3:Fr h h3 (fun _=>False)):X8 h M R E w ⟨fU,[]⟩ h3:=by
 obtain⟨d12,d13,d23⟩:=c3.ne
 have Cv:(e != 0)=true:=by simpa using du
 unfold X8
 simp only[aB.t11,t.e4,au,c3.e,ao,zA,ab,b5,Cv]
 have nP:aA fU [(13,.sc (.int .i64 e)),(14,.sc (.bool true))] 14=.sc (.bool true):=by simp
 have t2:=t.aA [(13,.sc (.int .i64 e)),(14,.sc (.bool true))] (by simp)
 generalize Go.Ab.aA fU [(13,.sc (.int .i64 e)),(14,.sc (.bool true))]=oA at *
 simp only[aB.t10,nP,aj,zF,zC,zI,zD]
 unfold Y8
 simp only[aB.t9]
 refine⟨fun i=>if i=0 then ac else ec,by simp[c3.a,c3.e],?_⟩
 have ca:=c3.a
 have ce:=c3.e
 simp only[t2.e2,t2.e3,t2.e4,au,ca,ce,c3.r,ao,zA,ab,aF,dC,HT,bG,AH.cS,d12,d13,d23,Ne.symm d12,Ne.symm d13,Ne.symm d23,if_false]
 refine⟨rfl,rfl,⟨⟨.inr n1,?_⟩,rfl,rfl,by simp⟩,⟨⟨.inr n2,?_⟩,rfl,rfl,by simp⟩,⟨.inr n3,rfl,rfl,by simp⟩,?_⟩
 ·simp[d12,d13]
 ·simp[d23]
 have t4:=t2.aA [(15,.sc (.int .i64 a)),(16,.sc (.int .i64 e))] (by simp)
 refine O1 (x:=aW) (y:=.sc (.int .i64 a)) (z:=.sc (.int .i64 e)) hr rfl t4.e2 t4.e3 t4.e4 ⟨?_,?_,?_⟩ (hR2 _ ?_)
 ·simp[AH.cS,c3.r,d12,d13]
 ·simp[AH.cS,ca,d23,Ne.symm d12]
 ·simp[AH.cS,ce,Ne.symm d13,Ne.symm d23]
 ·exact((f3.put (.inr n1)).put (.inr n2)).put (.inr n3)
theorem O3(hr:Rel E h w){L:List Tok}(hL:oT L) (hR:rZ (wl L s.size (L.length+1) 0 []) (fun rows=>∀x h',fO h' x rows->cP (h.next<=·) x->Fr h h' (fun _=>False)->R (.ret (.dY [x,.sc (.int .i64 0),.sc (.int .i64 0)])) h')
  (fun e=>∀h',Fr h h' (fun _=>False)->R (.ret (.dY [aW,.sc (.int .i64 e.1),.sc (.int .i64 e.2)])) h')) {fU:Nat->AV} {h3:AH} {x:AV} (t:S8 fU s rc ac ec) (g5:fU 5=x) (n1:h.next<=rc) (n2:h.next<=ac) (n3:h.next<=ec)
  (c3:RC h3 rc ac ec aW (.sc (.int .i64 0)) (.sc (.int .i64 0))) (f3:Fr h h3 (fun _=>False)) (hx:bN Tok.enc 3 126 h3 x L):X8 h M R E w ⟨fU,[]⟩ h3:=by
 have Cv:((0:Int) != 0)=false:=by decide
 unfold X8
 simp only[aB.t11,t.e4,au,c3.e,ao,zA,ab,b5,Cv]
 have nP:aA fU [(13,.sc (.int .i64 0)),(14,.sc (.bool false))] 14=.sc (.bool false):=by simp
 have k5:aA fU [(13,.sc (.int .i64 0)),(14,.sc (.bool false))] 5=x:=by simp[g5]
 have t2:=t.aA [(13,.sc (.int .i64 0)),(14,.sc (.bool false))] (by simp)
 generalize Go.Ab.aA fU [(13,.sc (.int .i64 0)),(14,.sc (.bool false))]=oA at *
 simp only[aB.t10,nP,aj,zE,zC,zH,zD]
 unfold K8
 refine pD Try.mixed hr (pl:=aB.pl) Wm (by kernel_rfl) ?_
 rw[aB.T3]
 simp only[aB.t7,t2.e2,t2.e3,t2.e4]
 show TC _ _ _ _ _ _ _ _ ⟨aA oA [(17,.fn (.func 45) [] [.ptr rc 0,.ptr ac 0,.ptr ec 0])],[⟨.func 45,[.ptr rc 0,.ptr ac 0,.ptr ec 0],[]⟩]⟩ h3
 have j5:aA oA [(17,.fn (.func 45) [] [.ptr rc 0,.ptr ac 0,.ptr ec 0])] 5=x:=by simp[k5]
 have t3:=t2.aA [(17,.fn (.func 45) [] [.ptr rc 0,.ptr ac 0,.ptr ec 0])] (by simp)
 generalize Go.Ab.aA oA [(17,.fn (.func 45) [] [.ptr rc 0,.ptr ac 0,.ptr ec 0])]=S6 at *
 refine pD Try.mixed hr (pl:=aB.pl) Wl (by kernel_rfl) ?_
 rw[aB.IA]
 simp only[aB.t6,t3.e0,j5,Ew,zH,JZ]
 have XX:cM x=some [x]/\cG x=true:=by
  rcases hx with⟨rfl,_⟩ |⟨id,rfl,_⟩<;>exact⟨rfl,rfl⟩
 refine⟨[x,.sc (.int .i64 0),.sc (.int .i64 s.size),aW],?_,?_⟩
 ·simp[dM,XX.1]
 refine⟨[x,.sc (.int .i64 0),.sc (.int .i64 s.size),aW],rfl,by simp only[List.all_cons,XX.2,List.all_nil];rfl,?_⟩
 have r5:=AH.cm h3 (aN [x,.sc (.int .i64 0),.sc (.int .i64 s.size),aW] 4 105)
 have f5:=(Fr.refl (h:=h3) (S:=fun _=>False)).alloc (aN [x,.sc (.int .i64 0),.sc (.int .i64 s.size),aW] 4 105)
 have c5:=c3.fr f5 (fun h=>h) (fun h=>h) (fun h=>h)
 have Yv:=f3.trans (f5.mono fun _ h=>h.elim)
 have n4:h.next<=h3.next:=f3.next
 have t5:∀u v2:AV,T8 ⟨aA S6 [(18,x),(19,.sc (.string s)),(20,.sc (.int .i64 s.size)),(21,u),(22,v2),(6,.ptr h3.next 0)],[⟨.func 45,[.ptr rc 0,.ptr ac 0,.ptr ec 0],[]⟩]⟩ rc ac ec h3.next x:=fun u v2=>
  have tt:=t3.aA [(18,x),(19,.sc (.string s)),(20,.sc (.int .i64 s.size)),(21,u),(22,v2),(6,.ptr h3.next 0)] (by simp)
  ⟨rfl,tt.e2,tt.e3,tt.e4,by simp[j5],by simp⟩
 rcases hx with⟨rfl,rfl⟩ |⟨id,rfl,ho⟩
 ·exact LZ (M:=M) hr (t5 _ _) c5 n1 n2 n3 r5 Yv hR
 ·exact O2 (M:=M) (L:=L) (en:=s.size) (tk:=id) hr hL (t5 _ _) c5 n1 n2 n3 n4 ⟨r5,f5.obj ho (fun h=>h),.nil⟩ Yv hR
end
theorem MK{s:ByteArray}{h:AH}{M:Nat->Prop}{R:AE->AH->Prop}(hR:Gy s h R):aE Pg 24 [.sc (.string s)] h M R:=by
 intro E w gI hr ha
 refine calls_of_wp_defers (c:=aB.code) Try.func24 rfl ?_
 have main:TC Pg 36 (fun id=>M id\/h.next<=id) E h w aB.code (bodyPostD Pg Try.f24 (pE E h M w R)) (s0 [.sc (.string s)]) h:=by
  refine pD Try.mixed hr (pl:=aB.pl) Wp (by kernel_rfl) ?_
  rw[aB.PI]
  simp only[aB.t13,aX]
  refine⟨rfl,rfl,rfl,?_⟩
  simp only[AH.bZ]
  have c0:RC (((h.alloc (aN ([.slice none 0 0].map AV.sc) 1 22)).alloc (aN ([.int .i64 0].map AV.sc) 1 3)).alloc (aN ([.int .i64 0].map AV.sc) 1 30)) h.next (h.next+1) (h.next+2) aW (.sc (.int .i64 0)) (.sc (.int .i64 0)):=
   ⟨by simp[AH.dy,AH.bZ];omega,by simp[AH.dy,AH.bZ],by simp[AH.dy,AH.bZ]⟩
  have f0:=(((Fr.refl (h:=h) (S:=fun _=>False)).alloc (aN ([.slice none 0 0].map AV.sc) 1 22)).alloc (aN ([.int .i64 0].map AV.sc) 1 3)).alloc (aN ([.int .i64 0].map AV.sc) 1 30)
  generalize ((h.alloc (aN ([.slice none 0 0].map AV.sc) 1 22)).alloc (aN ([.int .i64 0].map AV.sc) 1 3)).alloc (aN ([.int .i64 0].map AV.sc) 1 30)=h1 at *
  have t0:S8 (aA (s0 [.sc (.string s)]).tm [(2,.ptr h.next 0),(3,.ptr (h.next+1) 0),(4,.ptr (h.next+2) 0)]) s h.next (h.next+1) (h.next+2):=⟨by simp,by simp,by simp,by simp⟩
  show TC _ _ _ _ _ _ _ _ ⟨aA (s0 [.sc (.string s)]).tm [(2,.ptr h.next 0),(3,.ptr (h.next+1) 0),(4,.ptr (h.next+2) 0)],[]⟩ h1
  generalize aA (s0 [.sc (.string s)]).tm [(2,.ptr h.next 0),(3,.ptr (h.next+1) 0),(4,.ptr (h.next+2) 0)]=tm at *
  have n1:h.next<=h.next:=zU _
  have n2:h.next<=h.next+1:=by omega
  have n3:h.next<=h.next+2:=by omega
  refine pD Try.mixed hr (pl:=aB.pl) Wo (by kernel_rfl) ?_
  rw[aB.PJ]
  simp only[aB.t12,t0.e0,t0.e3,t0.e4]
  refine⟨fun _=>False,fun _ h=>h.elim,Q9 ?_⟩
  unfold Gy pY at hR
  unfold Jf
  by_cases hb:65536<s.size
  ·rw[zX hb]at hR ⊢
   intro h2 m1 m2
   exact GD hr t0 n1 n2 n3 f0 c0 ⟨m1,fun i hi _=>m2 i hi⟩ (fun fU h3 t2 _ c3 f3 _=>GF hr (by decide) hR t2 n1 n2 n3 c3 f3)
  rw[zW hb]at hR ⊢
  cases iJ:js s 0 [] with
  |error p=>
   rw[iJ]at hR
   intro h2 m1 m2
   exact GD hr t0 n1 n2 n3 f0 c0 ⟨m1,fun i hi _=>m2 i hi⟩ (fun fU h3 t2 _ c3 f3 _=>GF hr (show(90:Int)≠0 by decide) hR t2 n1 n2 n3 c3 f3)
  |ok L=>
   rw[iJ]at hR
   simp only at hR
   have hL:=Mx (by omega) iJ
   intro x h2 hx ix m1 m2
   refine GD hr t0 n1 n2 n3 f0 c0 ⟨m1,fun i hi _=>m2 i hi⟩ (fun fU h3 t2 g5 c3 f3 dH=>O3 hr hL hR t2 g5 n1 n2 n3 c3 f3 ?_)
   rcases hx with hx |⟨id,hx,ho⟩
   ·exact .inl hx
   ·exact .inr ⟨id,hx,dH id _ ho (by show(126:Nat)≠3;decide) (by show(126:Nat)≠30;decide)⟩
 exact main E w _ (Step.refl hr) (Ii ha (n:=36) (by simp))
end
section
open Go.Ab
def ql(p:Int->Bool)(s:ByteArray):Nat->Nat->Nat
 |0,i=>i
 |n+1,i=>if i<s.size then(if p (hN s i) then ql p s n (i+1) else i) else i
theorem G3(p:Int->Bool)(s:ByteArray):∀(n i:Nat),s.size-i<=n->ql p s n i=iL p s i
 |0,i,h=>by rw[ql,iL,dif_neg (by omega)]
 |n+1,i,h=>by
  rw[ql,iL]
  by_cases hi:i<s.size
  ·have hb:hN s i=s[i].toNat:=by simp[hN,hi]
   rw[zX hi,dif_pos hi,hb,G3 p s n (i+1) (by omega)]
  ·rw[zW hi,dif_neg hi]
def M2(s:ByteArray)(i:Nat)(c:Int):QO:=
 if tS c then .skip (i+1)
 else if c==35 then .skip (ql (fun c=>c != 10) s s.size i)
 else if jR c then .tok ⟨1,s.extract i (ql nQ s s.size i),i⟩ (ql nQ s s.size i)
 else if isDigit c then(if decide (ql isDigit s s.size i<s.size)&&jR (hN s (ql isDigit s s.size i)) then .err (ql isDigit s s.size i) else .tok ⟨2,s.extract i (ql isDigit s s.size i),i⟩ (ql isDigit s s.size i))
 else if ri c then .tok ⟨3,s.extract i (i+1),i⟩ (i+1)
 else .err i
theorem RF(s:ByteArray)(i:Nat)(c:Int):M2 s i c=sG s i c:=by
 unfold M2 sG
 simp only[G3 _ s s.size i (by omega)]
def xN(s:ByteArray):Nat->Nat->List Tok->Except Nat (List Tok)
 |0,_,acc=>.ok acc
 |n+1,i,acc=>if i<s.size then
   match M2 s i (hN s i) with
   |.skip j=>if i<j then xN s n j acc else .error 0
   |.tok t j=>if i<j then xN s n j (acc++[t]) else .error 0
   |.err j=>.error j
  else .ok acc
theorem zr(s:ByteArray):∀(n i:Nat)(acc:List Tok),s.size-i<=n->xN s n i acc=js s i acc
 |0,i,acc,h=>by rw[xN,js,dif_neg (by omega)]
 |n+1,i,acc,h=>by
  rw[xN,js]
  by_cases hi:i<s.size
  ·rw[zX hi,dif_pos hi,RF]
   cases sG s i (hN s i) with
   |skip j=>
    simp only
    by_cases hj:i<j
    ·rw[zX hj,zX hj,zr s n j acc (by omega)]
    ·rw[zW hj,zW hj]
   |tok t j=>
    simp only
    by_cases hj:i<j
    ·rw[zX hj,zX hj,zr s n j _ (by omega)]
    ·rw[zW hj,zW hj]
   |err j=>rfl
  ·rw[zW hi,dif_neg hi]
def JT(s:ByteArray):j_ (List Row):=
 if 65536<s.size then .error (0,1)
 else match xN s s.size 0 [] with
 |.error p=>.error (p,90)
 |.ok L=>wl L s.size (L.length+1) 0 []
theorem wB(s:ByteArray):JT s=pY s:=by
 unfold JT pY
 rw[zr s s.size 0 [] (by omega)]
 try rfl
end
section
open Go.Ab
section
variable {L:List Tok} {en:Int}
structure Good (L:List Tok) (en:Int):Prop where
 pos:0<=en
 at_:∀t∈L,0<=t.at_/\t.at_<=en
variable (G:Good L en)
include G
end
def U0(r:Row):ByteArray:=if r.kind=cQ then r.name else r.kind
inductive q8 (L:List Tok):Nat->Nat->List Row->Prop
 |nil {p p':Nat}:p<=p'->q8 L p p' []
 |cons {p q p' k:Nat} {t:Tok} {r:Row} {l:List Row}:p<=k->L[k]?=some t->r.place=t.at_->U0 r=t.text->0<=r.rows->r.rows<=l.length->k<q->q8 L q p' l->q8 L p p' (r::l)
theorem q8.HV{L:List Tok}{p q p':Nat}{a b:List Row}(h:q8 L p q a)(k:q8 L q p' b):q8 L p p' (a++b):=by
 induction h with
 |nil h1=>
  cases k with
  |nil h2=>exact .nil (by omega)
  |cons a1 a2 a3 a4 a5 a6 a7 a8=>exact .cons (by omega) a2 a3 a4 a5 a6 a7 a8
 |cons a1 a2 a3 a4 a5 a6 a7 a8 ih=>
  rw[List.cons_append]
  exact .cons a1 a2 a3 a4 a5 (Int.le_trans a6 (Int.ofNat_le.2 (by rw[List.length_append];omega))) a7 (ih k)
theorem q8.len{L:List Tok}{p p':Nat}{l:List Row}(h:q8 L p p' l):l=[]\/p+l.length<=L.length:=by
 induction h with
 |nil _=>exact .inl rfl
 |cons a1 a2 a3 a4 a5 a6 a7 a8 ih=>
  have:=(zM.1 a2).1
  rcases ih with ih |ih
  ·subst ih;exact .inr (by simp only[List.length_cons,List.length_nil];omega)
  ·exact .inr (by simp only[List.length_cons];omega)
end
section
open Go.Ab
def AG(L:List Tok)(rows:List Row):Prop:=∀r∈rows,r.args.length<=L.length/\r.num<=9007199254740991
section
variable {L:List Tok} {en:Int}
theorem AG.one{row:Row}(h:row.args.length<=L.length/\row.num<=9007199254740991):AG L [row]:=fun r hr=>by simp only[List.mem_singleton]at hr;subst hr;exact h
theorem AG.HV{a b:List Row}(ha:AG L a)(hb:AG L b):AG L (a++b):=fun r hr=>(List.mem_append.1 hr).elim (ha r) (hb r)
end
end
end Go.Proofs.Ytjehibknlmehmaa
