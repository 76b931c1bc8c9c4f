/- The document looks as the plain form says. No condition. -/
import Derived.Test.YtjehibknlmehmaaGr
import Derived.Test.YtjehibknlmehmaaFb
set_option maxRecDepth 100000
namespace Go.Proofs.Ytjehibknlmehmaa
open Go.Ab
attribute [-simp] eAlloc_d eStore_f
def encRg (r:Reg):List AV:=[Sb r.name,I r.from_,I r.size]
theorem encRg_len (r:Reg):(encRg r).length=3:=rfl
def encD (y:Dfn×AV):List AV:=[Sb y.1.name,y.2,I y.1.from_,I y.1.to_,I y.1.depth,I y.1.ops,B (!y.1.whole)]
theorem encD_len (y:Dfn×AV):(encD y).length=7:=rfl
theorem encD_one {y:Dfn×AV} (h:oneA y.2=true):(encD y).all oneA=true:=by
 show (true&&(oneA y.2&&(true&&(true&&(true&&(true&&(true&&true)))))))=true
 rw [h];rfl
def TB (t:TypeId):Bool:=t==54||t==85||t==78
abbrev oBk (xr xq xb xd:AV) (pl er:Int) (many:Bool) (xo xp:AV):AO:=mkO [xr,xq,xb,xd,I pl,I er,B many,xo,xp] 9 54
structure DT (h:AH) (xd:AV) (ds:List Dfn) (yl:List (Dfn×AV)):Prop where
 t:SlL encD 7 78 h xd yl
 e:yl.map (·.1)=ds
 p:∀ y∈yl,SlL encS 1 9 h y.2 y.1.params
structure RB (n0:Nat) (h:AH) (b:Nat) (xr:AV) (bk:Bk) (pl er:Int) (xq xb xd:AV) (yl:List (Dfn×AV)):Prop where
 n:n0<=b/\InS (n0<=·) xq/\InS (n0<=·) xb/\InS (n0<=·) xd
 b:h.obj b=some (oBk xr xq xb xd pl er false nilS nilS)
 q:SlL encRg 3 85 h xq bk.qs
 s:SlL encRg 3 85 h xb bk.bs
 d:DT h xd bk.ds yl
 sep:Sep xq xb
theorem DT.fr0 {h h':AH} {xd:AV} {ds:List Dfn} {yl:List (Dfn×AV)} (a:DT h xd ds yl) (f:Fr h h' fun _=>False):DT h' xd ds yl:=⟨a.t.of_fr f fun _ _ h=>h,a.e,fun y hy=>(a.p y hy).of_fr f fun _ _ h=>h⟩
theorem RB.fr0 {n0:Nat} {h h':AH} {b:Nat} {xr:AV} {bk:Bk} {pl er:Int} {xq xb xd:AV} {yl:List (Dfn×AV)} (a:RB n0 h b xr bk pl er xq xb xd yl) (f:Fr h h' fun _=>False):RB n0 h' b xr bk pl er xq xb xd yl:=
 ⟨a.n,f.ob0 a.b,a.q.of_fr f fun _ _ h=>h,a.s.of_fr f fun _ _ h=>h,a.d.fr0 f,a.sep⟩
theorem DT.at_ {h:AH} {xd:AV} {ds:List Dfn} {yl:List (Dfn×AV)} (a:DT h xd ds yl) {i:Nat} {d:Dfn} (hd:ds[i]?=some d):∃ x,yl[i]?=some (d,x)/\SlL encS 1 9 h x d.params:=by
 rw [<-a.e,List.getElem?_map] at hd
 cases hy:yl[i]? with
 | none=>rw [hy] at hd;cases hd
 | some y=>
  rw [hy] at hd
  cases hd
  exact ⟨y.2,rfl,a.p y (zP hy)⟩
theorem DT.len {h:AH} {xd:AV} {ds:List Dfn} {yl:List (Dfn×AV)} (a:DT h xd ds yl):yl.length=ds.length:=by
 have:=congrArg List.length a.e
 simpa using this
section
variable {h:AH} {M:Nat->Prop} {R:AE->AH->Prop}
theorem totalR_cons (r:Reg) (l:List Reg):totalR (r::l)=r.size+totalR l:=by simp [totalR]
theorem total_ok {x:AV} {l:List Reg} (hx:SlR encRg 3 85 h x l) (hs:∀ r∈l,0<=r.size) (ht:totalR l<=64) (hl:l.length<=100000000) (hR:R (.ret (I (totalR l))) h):ACalls Try.prog 18 [x] h M R:=by
 apply F18.callsN
 unfold F18.n9 F18.n8 F18.n7 F18.n6
 refine vLoop_of (ι:=Nat×Int) (fun i v h'=>v=[x,I i.2,I i.1]/\i.1<=l.length/\h'=h/\0<=i.2/\i.2+totalR (l.drop i.1)=totalR l) (fun i=>l.length - i.1) (0,0) ⟨rfl,by omega,rfl,by simp,by simp⟩ ?_
 rintro K ⟨i,n⟩ v h' ⟨rfl,hi,rfl,hn,he⟩ step
 simp only at hi hn he
 simp only [F18.g1_,zN,zO,F18.n5,hx.len.1,hx.len.2,zH,pBin_lss]
 by_cases hlt:i < l.length
 ·have hli:(i:Int) < l.length:=by omega
  have g1:l[i]?=some l[i]:=zJ hlt
  have w1:IntKind.i64.wrap ((i:Int)+1)=((i+1:Nat):Int):=by rw [wrap_in (by omega) (by omega)];simp
  rw [List.drop_eq_getElem_cons hlt,totalR_cons] at he
  have h0:=hs _ (List.getElem_mem hlt)
  have hrest:0<=totalR (l.drop (i+1)):=by
   have key:∀ m:List Reg,(∀ r∈m,0<=r.size)->0<=totalR m:=by
    intro m
    induction m with
    | nil=>intro _;simp [totalR]
    | cons r m ih=>
     intro hm
     rw [totalR_cons]
     have:=ih fun r hr=>hm r (List.mem_cons_of_mem _ hr)
     have:=hm r (List.mem_cons_self ..)
     omega
   exact key _ fun r hr=>hs r (List.mem_of_mem_drop hr)
  generalize l[i]=g at *
  have w2:IntKind.i64.wrap (n+g.size)=n+g.size:=wrap_in (by omega) (by omega)
  simp only [zL hli,F18.n4,aIf_b,zD,zF,zC,zI,F18.n3]
  refine rng_fld (k:=2) hx encRg_len g1 (by omega) rfl fun _=>?_
  simp only [pBin_add,w2,F18.n2,w1]
  exact step (i+1,n+g.size) _ _ (by simp only;omega) ⟨rfl,by simp only;omega,rfl,by simp only;omega,by simp only;omega⟩
 ·have hnl:¬ (i:Int) < l.length:=by omega
  rw [List.drop_of_length_le (by omega)] at he
  have e:n=totalR l:=by simp [totalR] at he ⊢;omega
  subst e
  simp only [zK hnl,F18.n4,aIf_b,zE,zD,zC,zH,zV,F18.n1,zN]
  simpa using hR
theorem find_ok {x:AV} {l:List Reg} {n:ByteArray} (hx:SlR encRg 3 85 h x l) (hl:l.length<=100000000) (h1:regOf l n=none->R (.ret (I (-1))) h) (h2:∀ (i:Nat) g,l[i]?=some g->regOf l n=some g->R (.ret (I i)) h):ACalls Try.prog 35 [x,Sb n] h M R:=by
 apply F35.callsN
 unfold F35.n10 F35.n9 F35.n8
 refine vLoop_of (ι:=Nat) (fun i v h'=>v=[x,Sb n,I i]/\i<=l.length/\h'=h/\regOf (l.drop i) n=regOf l n) (fun i=>l.length - i) 0 ⟨rfl,by omega,rfl,by simp⟩ ?_
 rintro K i v h' ⟨rfl,hi,rfl,he⟩ step
 simp only [F35.g1_,zN,zO,F35.n7,hx.len.1,hx.len.2,zH,pBin_lss]
 by_cases hlt:i < l.length
 ·have hli:(i:Int) < l.length:=by omega
  have g1:l[i]?=some l[i]:=zJ hlt
  have w1:IntKind.i64.wrap ((i:Int)+1)=((i+1:Nat):Int):=by rw [wrap_in (by omega) (by omega)];simp
  rw [List.drop_eq_getElem_cons hlt] at he
  unfold regOf at he
  rw [List.find?_cons] at he
  generalize l[i]=g at *
  simp only [zL hli,F35.n6,aIf_b,zD,zF,zC,zI,F35.n5]
  refine rng_fld (k:=0) hx encRg_len g1 (by omega) rfl fun _=>?_
  simp only [pBin_seql]
  by_cases e:g.name=n
  ·rw [zL e] at he
   simp only [zL e,F35.n4,aIf_b,zD,zF,zC,zI,F35.n3]
   simpa using h2 i g g1 he.symm
  ·rw [zK e] at he
   simp only [zK e,F35.n4,aIf_b,zE,zD,zC,zH,F35.n2,pBin_add,w1]
   exact step (i+1) _ _ (by omega) ⟨rfl,by omega,rfl,he⟩
 ·have hnl:¬ (i:Int) < l.length:=by omega
  rw [List.drop_of_length_le (by omega)] at he
  simp only [zK hnl,F35.n6,aIf_b,zE,zD,zC,zH,zV,F35.n1]
  simpa using h1 he.symm
theorem knownR_ok {b:Nat} {cs:List AV} {xd:AV} {ds:List Dfn} {yl:List (Dfn×AV)} {n:ByteArray} (hb:h.obj b=some (mkO cs 9 54)) (c3:cs[3]?=some xd) (hx:DT h xd ds yl) (hl:ds.length<=100000000) (h1:dfnOf ds n=none->R (.ret (I (-1))) h) (h2:∀ (i:Nat) d,ds[i]?=some d->dfnOf ds n=some d->R (.ret (I i)) h):ACalls Try.prog 53 [.ptr b 0,Sb n] h M R:=by
 apply F53.callsN
 unfold F53.n10 F53.n9 F53.n8
 have hlen:=hx.len
 refine vLoop_of (ι:=Nat) (fun i v h'=>v=[.ptr b 0,Sb n,I i]/\i<=ds.length/\h'=h/\dfnOf (ds.drop i) n=dfnOf ds n) (fun i=>ds.length - i) 0 ⟨rfl,by omega,rfl,by simp⟩ ?_
 rintro K i v h' ⟨rfl,hi,rfl,he⟩ step
 simp only [F53.g1_,zN,zO,F53.n7,pNil_ptr,pFld_ptr,lLd_f,hb,ldk_mk,zG,c3,cellK_some,hx.t.toR.len.1,hx.t.toR.len.2,zH,pBin_lss,hlen]
 by_cases hlt:i < ds.length
 ·have hli:(i:Int) < ds.length:=by omega
  have g1:ds[i]?=some ds[i]:=zJ hlt
  have w1:IntKind.i64.wrap ((i:Int)+1)=((i+1:Nat):Int):=by rw [wrap_in (by omega) (by omega)];simp
  rw [List.drop_eq_getElem_cons hlt] at he
  unfold dfnOf at he
  rw [List.find?_cons] at he
  generalize ds[i]=d at *
  obtain ⟨x,g2,_⟩:=hx.at_ g1
  simp only [zL hli,F53.n6,aIf_b,zD,zF,zC,zI,F53.n5,pNil_ptr,pFld_ptr,lLd_f,hb,ldk_mk,zG,c3,cellK_some]
  refine rng_fld (k:=0) hx.t.toR encD_len g2 (by omega) rfl fun _=>?_
  simp only [pBin_seql]
  by_cases e:d.name=n
  ·rw [zL e] at he
   simp only [zL e,F53.n4,aIf_b,zD,zF,zC,zI,F53.n3]
   simpa using h2 i d g1 he.symm
  ·rw [zK e] at he
   simp only [zK e,F53.n4,aIf_b,zE,zD,zC,zH,F53.n2,pBin_add,w1]
   exact step (i+1) _ _ (by omega) ⟨rfl,by omega,rfl,he⟩
 ·have hnl:¬ (i:Int) < ds.length:=by omega
  rw [List.drop_of_length_le (by omega)] at he
  simp only [zK hnl,F53.n6,aIf_b,zE,zD,zC,zH,zV,F53.n1]
  simpa using h1 he.symm
theorem place_ok {x:AV} {l:List ByteArray} {q:ByteArray} (hx:SlR encS 1 9 h x l) (hl:l.length<=100000000) (hR:R (.ret (I (match idxN q l 0 with | some j=>j | none=>-1))) h):ACalls Try.prog 82 [x,Sb q] h M R:=by
 apply F82.callsN
 unfold F82.n10 F82.n9 F82.n8
 refine vLoop_of (ι:=Nat) (fun i v h'=>v=[x,Sb q,I i]/\i<=l.length/\h'=h/\idxN q (l.drop i) i=idxN q l 0) (fun i=>l.length - i) 0 ⟨rfl,by omega,rfl,rfl⟩ ?_
 rintro K i v h' ⟨rfl,hi,rfl,he⟩ step
 simp only [F82.g1_,zN,zO,F82.n7,hx.len.1,hx.len.2,zH,pBin_lss]
 by_cases hlt:i < l.length
 ·have hli:(i:Int) < l.length:=by omega
  have g1:l[i]?=some l[i]:=zJ hlt
  have w1:IntKind.i64.wrap ((i:Int)+1)=((i+1:Nat):Int):=by rw [wrap_in (by omega) (by omega)];simp
  rw [List.drop_eq_getElem_cons hlt] at he
  simp only [idxN] at he
  generalize l[i]=y at *
  simp only [zL hli,F82.n6,aIf_b,zD,zF,zC,zI,F82.n5]
  refine rng_one hx (fun _=>rfl) g1 rfl fun _=>?_
  simp only [pBin_seql]
  by_cases e:q=y
  ·rw [zX e] at he
   rw [<-he] at hR
   simp only [zL e.symm,F82.n4,aIf_b,zD,zF,zC,zI,F82.n3]
   simpa using hR
  ·rw [zW e] at he
   simp only [zK (show ¬ y=q from fun h=>e h.symm),F82.n4,aIf_b,zE,zD,zC,zH,F82.n2,pBin_add,w1]
   exact step (i+1) _ _ (by omega) ⟨rfl,by omega,rfl,he⟩
 ·have hnl:¬ (i:Int) < l.length:=by omega
  rw [List.drop_of_length_le (by omega)] at he
  rw [<-he] at hR
  simp only [zK hnl,F82.n6,aIf_b,zE,zD,zC,zH,zV,F82.n1]
  simpa [idxN] using hR
theorem holds_ok {k:ByteArray} (hR:R (.ret (B (bodyK k))) h):ACalls Try.prog 28 [Sb k] h M R:=by
 apply F28.callsN
 unfold bodyK at hR
 by_cases k1:k=sGate
 ·subst k1;simpa [sGate] using hR
 ·by_cases k2:k=sRepeat
  ·subst k2;simpa [sGate,sRepeat] using hR
  ·by_cases k3:k=sIf
   ·subst k3;simpa [sGate,sRepeat,sIf] using hR
   ·simp [k1,k2,k3] at hR
    unfold sGate at k1;unfold sRepeat at k2;unfold sIf at k3
    simpa [k1,k2,k3] using hR
theorem kind_ok {k:ByteArray} (hR:R (.ret (B (knownK k))) h):ACalls Try.prog 27 [Sb k] h M R:=by
 apply F27.callsN
 unfold knownK bodyK at hR
 by_cases k1:k=sQubits
 ·subst k1;simpa [sQubits] using hR
 by_cases k2:k=sBits
 ·subst k2;simpa [sQubits,sBits] using hR
 by_cases k6:k=sGate
 ·subst k6;simpa [sQubits,sBits,sGate,sUse,sMeasure,sReset] using hR
 by_cases k7:k=sRepeat
 ·subst k7;simpa [sQubits,sBits,sGate,sRepeat,sUse,sMeasure,sReset] using hR
 by_cases k8:k=sIf
 ·subst k8;simpa [sQubits,sBits,sGate,sRepeat,sIf,sUse,sMeasure,sReset] using hR
 by_cases k3:k=sUse
 ·subst k3;simpa [sQubits,sBits,sGate,sRepeat,sIf,sUse,sMeasure,sReset] using hR
 by_cases k4:k=sMeasure
 ·subst k4;simpa [sQubits,sBits,sGate,sRepeat,sIf,sUse,sMeasure,sReset] using hR
 by_cases k5:k=sReset
 ·subst k5;simpa [sQubits,sBits,sGate,sRepeat,sIf,sUse,sMeasure,sReset] using hR
 simp [k1,k2,k3,k4,k5,k6,k7,k8] at hR
 unfold sQubits at k1;unfold sBits at k2;unfold sUse at k3;unfold sMeasure at k4;unfold sReset at k5;unfold sGate at k6;unfold sRepeat at k7;unfold sIf at k8
 simpa [k1,k2,k3,k4,k5,k6,k7,k8] using hR
end
end Go.Proofs.Ytjehibknlmehmaa
namespace Go.Proofs.Ytjehibknlmehmaa
open Go.Ab
attribute [-simp] eAlloc_d eStore_f
theorem idxN_mem {α:Type} [DecidableEq α] {x:α}:∀ {l:List α} {i:Nat},(idxN x l i).isSome=decide (x∈l)
 | [],i=>by simp [idxN]
 | y::l,i=>by
  simp only [idxN]
  by_cases e:x=y
  ·simp [e]
  ·rw [zW e,idxN_mem];simp [e]
theorem memB_mem {α:Type} [DecidableEq α] {x:α} {l:List α}:memB x l=decide (x∈l):=idxN_mem
def BE (h:AH) (b:Nat) (pl e:Int):Prop:=∃ cs,h.obj b=some (mkO cs 9 54)/\cs[4]?=some (I pl)/\cs[5]?=some (I e)
section
variable {h:AH} {M:Nat->Prop} {R:AE->AH->Prop} {n0 b:Nat} {xr:AV} {bk:Bk} {pl er:Int} {xq xb xd:AV} {yl:List (Dfn×AV)} {rs:List (Row×AV)}
structure BN (n0:Nat) (h:AH) (b:Nat) (xr:AV):Prop where
 n:n0<=b
 b:∃ xq xb xd pl er m xo xp,h.obj b=some (oBk xr xq xb xd pl er m xo xp)
theorem RB.bn (a:RB n0 h b xr bk pl er xq xb xd yl):BN n0 h b xr:=⟨a.n.1,_,_,_,_,_,_,_,_,a.b⟩
theorem BN.fr0 {h':AH} (a:BN n0 h b xr) (f:Fr h h' fun _=>False):BN n0 h' b xr:=by
 obtain ⟨h1,xq,xb,xd,pl,er,m,xo,xp,h2⟩:=a
 exact ⟨h1,xq,xb,xd,pl,er,m,xo,xp,f.ob0 h2⟩
theorem bad_ok {i:Nat} {e:Int} {y:Row×AV} (bn:BN n0 h b xr) (rt:RT h xr rs) (hy:rs[i]?=some y) (hM:∀ id,TW TB n0 h id->M id) (hR:∀ h',BE h' b y.1.place e->Fr h h' (TW TB n0 h)->R (.ret (B false)) h'):ACalls Try.prog 29 [.ptr b 0,I i,I e] h M R:=by
 apply F29.callsN
 obtain ⟨hn,xq,xb,xd,pl,er,m,xo,xp,ob⟩:=bn
 have mb:M b:=hM b ⟨hn,_,ob,rfl,rfl⟩
 simp only [F29.n3,F29.n2,pNil_ptr,pFld_ptr,lLd_f,ob,ldk_mk,zG,zA,cellK_some]
 refine rng_fld (k:=5) rt.r encRA_len hy (by omega) rfl fun _=>?_
 simp only [pNil_ptr,pFld_ptr,eStore_f,ob,avC_int,stk_mk,zG]
 refine ⟨⟨.inl mb,rfl,rfl,by simp⟩,?_⟩
 have f1:Fr h (h.put b 4 [I y.1.place]) (·=b):=Fr.refl.put (.inl rfl)
 have o1:=put_mk (off:=4) (cs:=[I y.1.place]) ob
 generalize h.put b 4 [I y.1.place]=h1 at *
 simp only [o1,avC_int,stk_mk]
 refine ⟨⟨.inl mb,rfl,rfl,by simp⟩,?_⟩
 have f2:Fr h (h1.put b 5 [I e]) (·=b):=f1.put (.inl rfl)
 have o2:=put_mk (off:=5) (cs:=[I e]) o1
 generalize h1.put b 5 [I e]=h2 at *
 have:=hR h2 ⟨_,o2,rfl,rfl⟩ (TW.of_one f2 hn ob rfl rfl)
 simpa [F29.n1] using this
theorem arg_ok {i:Nat} {x3:AV} {l:List Reg} {a:Arg} {y:Row×AV} (bn:BN n0 h b xr) (rt:RT h xr rs) (hy:rs[i]?=some y) (hx:SlR encRg 3 85 h x3 l) (hl:l.length<=100000000) (hM:∀ id,TW TB n0 h id->M id)
  (he:∀ h',atP l a≠0->BE h' b y.1.place (atP l a)->Fr h h' (TW TB n0 h)->R (.ret (B false)) h')
  (hk:∀ h',atP l a=0->Fr h h' (fun _=>False)->R (.ret (B true)) h'):ACalls Try.prog 52 [.ptr b 0,I i,.agg a.enc,x3] h M R:=by
 apply F52.callsN
 unfold F52.n11
 refine box_var (cs:=a.enc) (Arg.enc_one a) fun va h1 f1 _ oa=>?_
 have bn1:=bn.fr0 f1
 have rt1:=rt.fr0 f1
 have hx1:=hx.fr0 f1
 have hW:∀ id,TW TB n0 h1 id->(M id\/h.next<=id):=fun id hid=>(TW.back (TW.of_fr f1) hid).elim (fun h=>.inl (hM id h)) .inr
 have bad:∀ e,atP l a=e->e≠0->∀ (QR:VK) (QP:AV->AH->Prop),(∀ h',R (.ret (B false)) h'->QR [B false] h')->aCall Try.prog (fun id=>M id\/h.next<=id) 29 [.ptr b 0,I i,I e] h1 (fun t h=>QR [t] h) QP:=fun e e1 e2 QR QP hq=>by
  refine ⟨TW TB n0 h1,fun id hs _=>hW id hs,bad_ok bn1 rt1 hy (fun _ h=>h) fun h2 be f2=>?_⟩
  exact hq h2 (he h2 (by rw [e1];exact e2) (by rw [e1];exact be) (TW.trans (TW.of_fr f1) f2))
 simp only [F52.n10,pFld_ptr,lLd_f,oa,ldk_mk,zG,Arg.enc,zA,cellK_some]
 refine ⟨fun _=>False,fun _ h=>h.elim,find_ok hx1 hl ?_ ?_⟩
 ·intro hr
  have ea:atP l a=110:=by unfold atP;rw [hr]
  simp only [F52.n9,pBin_lss,show decide ((-1:Int) < 0)=true from rfl,F52.n8,aIf_b,zD,zF,zC,zI,F52.n7]
  exact bad 110 ea (by decide) _ _ (fun h' hh=>by simpa using hh)
 ·intro j g hj hr
  have h0:decide ((j:Int) < 0)=false:=by simp
  have ea:atP l a=if a.index < 0\/g.size<=a.index then 112 else 0:=by unfold atP;rw [hr]
  simp only [F52.n9,pBin_lss,h0,F52.n8,aIf_b,zE,zD,zC,zH,F52.n6,pFld_ptr,lLd_f,oa,ldk_mk,zG,Arg.enc,zA,zB,cellK_some]
  by_cases k1:a.index < 0
  ·rw [zX (.inl k1)] at ea
   simp only [zL k1,F52.n5,aIg_b,zT,zF,zD,zC,zI,zH,zE,F52.n4,pPick_b,zV,F52.n3,aIf_b,F52.n2]
   exact bad 112 ea (by decide) _ _ (fun h' hh=>by simpa using hh)
  ·simp only [zK k1,F52.n5,aIg_b,zT,zE,zD,zC,zI,pFld_ptr,lLd_f,oa,ldk_mk,zG,Arg.enc,zA,zB,cellK_some]
   refine rng_fld (k:=2) hx1 encRg_len hj (by omega) rfl fun _=>?_
   simp only [pBin_geq,ge_iff_le]
   by_cases k2:g.size<=a.index
   ·rw [zX (.inr k2)] at ea
    simp only [zL k2,F52.n4,pPick_b,zE,if_false,F52.n3,aIf_b,zD,zF,zC,zI,F52.n2]
    exact bad 112 ea (by decide) _ _ (fun h' hh=>by simpa using hh)
   ·rw [zW (by omega)] at ea
    simp only [zK k2,F52.n4,pPick_b,zE,if_false,F52.n3,aIf_b,zD,zC,zH,F52.n1]
    simpa using hk h1 ea f1
theorem takenR_ok {n:ByteArray} (rb:RB n0 h b xr bk pl er xq xb xd yl) (hl:bk.qs.length<=100000000/\bk.bs.length<=100000000/\bk.ds.length<=100000000) (hR:∀ h',Fr h h' (fun _=>False)->R (.ret (B (takenB bk n))) h'):ACalls Try.prog 80 [.ptr b 0,Sb n] h M R:=by
 apply F80.callsN
 unfold F80.n9 F80.n8
 refine ⟨fun _=>False,fun _ h=>h.elim,refArity_ok ?_⟩
 have rb1:=rb
 have hR:=hR h Fr.refl
 have g0:∀ i:Nat,decide ((i:Int)>=0)=true:=fun i=>by simp
 have gm:decide ((-1:Int)>=0)=false:=rfl
 simp only [pBin_gtr,gt_iff_lt]
 have step4:∀ t:Bool,takenB bk n=(t||(dfnOf bk.ds n).isSome)->F80.n3 (fun id=>M id\/h.next<=id) (retV Try.prog [.tmp 4] R) (retV Try.prog [.tmp 4] R) (fun _ _ _=>False) (fun v h=>R (.pan v) h) (.ptr b 0) (Sb n) (B t) h:=fun t ht=>by
  rw [ht] at hR
  cases t with
  | true=>simpa [F80.n3,F80.n2,F80.n1] using hR
  | false=>
   simp only [F80.n3,aIg_b,zT,zE,zD,zC,zI]
   refine ⟨fun _=>False,fun _ h=>h.elim,knownR_ok rb1.b rfl rb1.d hl.2.2 ?_ ?_⟩
   ·intro hd;rw [hd] at hR;simpa [F80.n2,F80.n1,gm] using hR
   ·intro i d _ hd;rw [hd] at hR;simpa [F80.n2,F80.n1,g0] using hR
 have step3:∀ t:Bool,takenB bk n=((t||(regOf bk.bs n).isSome)||(dfnOf bk.ds n).isSome)->F80.n5 (fun id=>M id\/h.next<=id) (retV Try.prog [.tmp 4] R) (retV Try.prog [.tmp 4] R) (fun _ _ _=>False) (fun v h=>R (.pan v) h) (.ptr b 0) (Sb n) (B t) h:=fun t ht=>by
  cases t with
  | true=>
   have:=step4 true (by rw [ht];simp)
   simpa [-F80.n3,F80.n5,F80.n4] using this
  | false=>
   simp only [F80.n5,aIg_b,zT,zE,zD,zC,zI,pNil_ptr,pFld_ptr,lLd_f,rb1.b,ldk_mk,zG,zA,zB,cellK_some]
   refine ⟨fun _=>False,fun _ h=>h.elim,find_ok rb1.s.toR hl.2.1 ?_ ?_⟩
   ·intro hd
    have:=step4 false (by rw [ht,hd];rfl)
    simpa [-F80.n3,F80.n4,gm] using this
   ·intro i d _ hd
    have:=step4 true (by rw [ht,hd];rfl)
    simpa [-F80.n3,F80.n4,g0] using this
 have step2:∀ t:Bool,takenB bk n=(((t||(regOf bk.qs n).isSome)||(regOf bk.bs n).isSome)||(dfnOf bk.ds n).isSome)->F80.n7 (fun id=>M id\/h.next<=id) (retV Try.prog [.tmp 4] R) (retV Try.prog [.tmp 4] R) (fun _ _ _=>False) (fun v h=>R (.pan v) h) (.ptr b 0) (Sb n) (B t) h:=fun t ht=>by
  cases t with
  | true=>
   have:=step3 true (by rw [ht];simp)
   simpa [-F80.n5,F80.n7,F80.n6] using this
  | false=>
   simp only [F80.n7,aIg_b,zT,zE,zD,zC,zI,pNil_ptr,pFld_ptr,lLd_f,rb1.b,ldk_mk,zG,zA,zB,cellK_some]
   refine ⟨fun _=>False,fun _ h=>h.elim,find_ok rb1.q.toR hl.1 ?_ ?_⟩
   ·intro hd
    have:=step3 false (by rw [ht,hd];rfl)
    simpa [-F80.n5,F80.n6,gm] using this
   ·intro i d _ hd
    have:=step3 true (by rw [ht,hd];rfl)
    simpa [-F80.n5,F80.n6,g0] using this
 refine step2 _ ?_
 unfold takenB
 cases (regOf bk.qs n).isSome <;> cases (regOf bk.bs n).isSome <;> cases (dfnOf bk.ds n).isSome <;> simp
theorem twice_ok {x:AV} {l:List ByteArray} (hx:SlR encS 1 9 h x l) (hl:l.length<=100000000) (hR:R (.ret (B (dupS l))) h):ACalls Try.prog 81 [x] h M R:=by
 apply F81.callsN
 unfold F81.n15 F81.n14 F81.n13
 refine vLoop_of (ι:=Nat) (fun i v h'=>v=[x,I i]/\i<=l.length/\h'=h/\∀ j a,j < i->l[j]?=some a->memB a (l.take j)=false) (fun i=>l.length - i) 0 ⟨rfl,by omega,rfl,fun j a h=>by omega⟩ ?_
 rintro K i v h' ⟨rfl,hi,rfl,hb⟩ step
 simp only [F81.g1_,zN,zO,F81.n12,hx.len.1,hx.len.2,zH,pBin_lss]
 by_cases hlt:i < l.length
 ·have hli:(i:Int) < l.length:=by omega
  have g1:l[i]?=some l[i]:=zJ hlt
  have w1:IntKind.i64.wrap ((i:Int)+1)=((i+1:Nat):Int):=by rw [wrap_in (by omega) (by omega)];simp
  simp only [zL hli,F81.n11,aIf_b,zD,zF,zC,zI,F81.n10]
  unfold F81.n9
  refine vLoop_of (ι:=Nat) (fun k v h1=>v=[x,I i,I k]/\k<=i/\h1=h'/\memB l[i] (l.take k)=false) (fun k=>i - k) 0 ⟨rfl,by omega,rfl,rfl⟩ ?_
  rintro K2 k v h1 ⟨rfl,hk,rfl,hm⟩ step2
  simp only [F81.g2_,zN,zO,F81.n8,pBin_lss]
  by_cases hkl:k < i
  ·have hki:(k:Int) < i:=by omega
   have g2:l[k]?=some (l[k]'(by omega)):=zJ _
   have w2:IntKind.i64.wrap ((k:Int)+1)=((k+1:Nat):Int):=by rw [wrap_in (by omega) (by omega)];simp
   have tk:l.take (k+1)=l.take k++[l[k]'(by omega)]:=List.take_succ_eq_append_getElem (by omega)
   have hmem:l[k]'(by omega)∈l.take i:=List.mem_take_iff_getElem.2 ⟨k,by omega,rfl⟩
   generalize ez:l[k]'(by omega)=z at *
   generalize ea:l[i]=a at *
   simp only [zL hki,F81.n7,aIf_b,zD,zF,zC,zI,F81.n6]
   refine rng_one hx (fun _=>rfl) g1 rfl fun _=>?_
   refine rng_one hx (fun _=>rfl) g2 rfl fun _=>?_
   simp only [pBin_seql]
   by_cases e:a=z
   ·have:dupS l=true:=dupG_at g1 (by rw [memB_mem,e];simpa using hmem)
    rw [this] at hR
    simp only [zL e,F81.n5,aIf_b,zD,zF,zC,zI,F81.n4]
    simpa using hR
   ·simp only [zK e,F81.n5,aIf_b,zE,zD,zC,zH,F81.n3,pBin_add,w2]
    refine step2 (k+1) _ _ (by omega) ⟨rfl,by omega,rfl,?_⟩
    rw [memB_mem] at hm ⊢
    rw [tk]
    simp only [decide_eq_false_iff_not,List.mem_append,List.mem_singleton,not_or] at hm ⊢
    exact ⟨hm,e⟩
  ·have hnl:¬ (k:Int) < i:=by omega
   have ek:k=i:=by omega
   subst ek
   simp only [zK hnl,F81.n7,aIf_b,zE,zD,zC,zH,zV,F81.n2,zN,zO,pBin_add,w1]
   refine step (k+1) _ _ (by omega) ⟨rfl,by omega,rfl,fun j a hj ha=>?_⟩
   by_cases hjk:j=k
   ·subst hjk
    rw [g1] at ha;cases ha
    exact hm
   ·exact hb j a (by omega) ha
 ·have hnl:¬ (i:Int) < l.length:=by omega
  have:dupS l=false:=dupG_no fun j a hj=>hb j a (by have:=(zM.1 hj).1;omega) hj
  rw [this] at hR
  simp only [zK hnl,F81.n11,aIf_b,zE,zD,zC,zH,zV,F81.n1]
  simpa using hR
end
end Go.Proofs.Ytjehibknlmehmaa
namespace Go.Proofs.Ytjehibknlmehmaa
open Go.Ab
attribute [-simp] eAlloc_d eStore_f
section
variable {W:Nat->Prop} {QR QN:VK} {QE:Nat->VK} {QP:AV->AH->Prop} {h:AH} {n0 b i vr:Nat} {xr:AV} {bk:Bk} {pl er:Int} {xq xb xd:AV} {yl:List (Dfn×AV)} {rs:List (Row×AV)} {y:Row×AV} {res:Er Bk}
structure DE (W:Nat->Prop) (QR:VK) (h:AH) (n0 b i vr:Nat) (xr:AV) (bk:Bk) (pl er:Int) (xq xb xd:AV) (yl:List (Dfn×AV)) (rs:List (Row×AV)) (y:Row×AV) (res:Er Bk):Prop where
 rb:RB n0 h b xr bk pl er xq xb xd yl
 rt:RT h xr rs
 hy:rs[i]?=some y
 or_:h.obj vr=some (mkO (encRA y) 6 42)
 hW:∀ id,TW TB n0 h id\/h.next<=id->W id
 bf:BkF bk
 ln:bk.qs.length<=64/\bk.bs.length<=64/\bk.ds.length<=100000000
 he:∀ e h',res=.error e->BE h' b y.1.place e->Fr h h' (TW TB n0 h)->QR [B false] h'
 hk:∀ bk' xq' xb' xd' yl' h',res=.ok bk'->RB n0 h' b xr bk' pl er xq' xb' xd' yl'->Fr h h' (TW TB n0 h)->QR [B true] h'
theorem DE.fr0 {h':AH} (k:DE W QR h n0 b i vr xr bk pl er xq xb xd yl rs y res) (f:Fr h h' fun _=>False):DE W QR h' n0 b i vr xr bk pl er xq xb xd yl rs y res:=
 ⟨k.rb.fr0 f,k.rt.fr0 f,k.hy,f.ob0 k.or_,fun id hid=>hid.elim (fun hid=>(TW.back (TW.of_fr f) hid).elim (fun h=>k.hW id (.inl h)) (fun h=>k.hW id (.inr h))) (fun hid=>k.hW id (.inr (zR f.next hid))),k.bf,k.ln,
  fun e h2 h3 h4 f2=>k.he e h2 h3 h4 (TW.trans (TW.of_fr f) f2),fun bk' xq' xb' xd' yl' h2 h3 h4 f2=>k.hk bk' xq' xb' xd' yl' h2 h3 h4 (TW.trans (TW.of_fr f) f2)⟩
theorem DE.bad (k:DE W QR h n0 b i vr xr bk pl er xq xb xd yl rs y res) {e:Int} (hr:res=.error e):aCall Try.prog W 29 [.ptr b 0,I i,I e] h (fun t h=>QR [t] h) QP:=
 ⟨TW TB n0 h,fun id hs _=>k.hW id (.inl hs),bad_ok k.rb.bn k.rt k.hy (fun _ h=>h) fun h2 be f2=>k.he e h2 hr be f2⟩
theorem RB.put {off:Nat} {x:AV} (rb:RB n0 h b xr bk pl er xq xb xd yl) {cs:List AV} {h2:AH} (_:h2.obj b=some (mkO cs 9 54)) (hn:n0<=b):Fr h2 (h2.put b off [x]) (TW TB n0 h2):=TW.of_one (T:=TB) (Fr.refl.put (.inl rfl)) hn (by assumption) rfl rfl
theorem DT.frO {h':AH} {ds:List Dfn} {S:Nat->Prop} (a:DT h xd ds yl) (f:Fr h h' S) (hs:∀ id o,h.obj id=some o->o.ty=78\/o.ty=9->¬ S id):DT h' xd ds yl:=by
 refine ⟨?_,a.e,fun y hy=>?_⟩
 ·rcases a.t with e | ⟨j,e1,e2⟩
  ·exact .inl e
  ·exact .inr ⟨j,e1,f.obj e2 (hs _ _ e2 (.inl rfl))⟩
 ·rcases a.p y hy with e | ⟨j,e1,e2⟩
  ·exact .inl e
  ·exact .inr ⟨j,e1,f.obj e2 (hs _ _ e2 (.inr rfl))⟩
theorem slL_frO {α:Type} {f:α->List AV} {sz:Nat} {ty:TypeId} {h h':AH} {x:AV} {l:List α} {S:Nat->Prop} (a:SlL f sz ty h x l) (hf:Fr h h' S) (hs:∀ id o,h.obj id=some o->o.ty=ty->x=.sl id 0 l.length->¬ S id):SlL f sz ty h' x l:=by
 rcases a with e | ⟨j,e1,e2⟩
 ·exact .inl e
 ·exact .inr ⟨j,e1,hf.obj e2 (hs _ _ e2 rfl e1)⟩
theorem F50_q {t:Int} (k:DE W QR h n0 b i vr xr bk pl er xq xb xd yl rs y (.ok { bk with qs:=bk.qs++[⟨y.1.name,t,y.1.num⟩] })):F50.n2 W QR QN QE QP (.ptr b 0) (.ptr vr 0) (I t) h:=by
 have rb:=k.rb
 simp only [F50.n2,pNil_ptr,pFld_ptr,lLd_f,rb.b,k.or_,ldk_mk,zG,encRA,zA,zB,cellK_some]
 refine ⟨encRg ⟨y.1.name,t,y.1.num⟩,by simp [aFill,putCells,avC_int,avC_str,encRg],?_⟩
 refine appv (f:=encRg) (t:=⟨y.1.name,t,y.1.num⟩) encRg_len (by omega) rfl (by omega) rfl rfl rb.q ?_ (by have:=k.ln.1;omega) fun z h1 hz hzs f1=>?_
 ·intro id off n e
  rcases rb.q with ⟨e1,_⟩ | ⟨j,e1,ho⟩
  ·rw [e1] at e;cases e
  ·rw [e1] at e;cases e
   exact k.hW _ (.inl ⟨rb.n.2.1 _ _ _ e1,_,ho,rfl,rfl⟩)
 ·have fT:Fr h h1 (TW TB n0 h):=f1.mono fun j ⟨off,n,e⟩=>by
   rcases rb.q with ⟨e1,_⟩ | ⟨j',e1,ho⟩
   ·rw [e1] at e;cases e
   ·rw [e1] at e;cases e
    exact ⟨rb.n.2.1 _ _ _ e1,_,ho,rfl,rfl⟩
  have b1:=f1.obj rb.b (sl_ne rb.q rb.b (show (54:Nat)≠85 by decide))
  have s1:SlL encRg 3 85 h1 xb bk.bs:=slL_frO rb.s f1 fun id o ho ht e1 ⟨off,n,e⟩=>rb.sep _ _ _ _ _ e e1
  have d1:DT h1 xd bk.ds yl:=rb.d.frO f1 fun id o ho ht he=>sl_ne rb.q ho (by rcases ht with e | e <;> rw [e] <;> show _≠(85:Nat) <;> decide) he
  simp only [pNil_ptr,pFld_ptr,eStore_f,b1,hz.toR.one.2,stk_mk,zG]
  refine ⟨⟨k.hW b (.inl ⟨rb.n.1,_,rb.b,rfl,rfl⟩),by show (oneA z&&true)=true;rw [hz.toR.one.1];rfl,rfl,by simp⟩,?_⟩
  have f2:Fr h1 (h1.put b 1 [z]) (·=b):=Fr.refl.put (.inl rfl)
  have b2:=put_mk (off:=1) (cs:=[z]) b1
  generalize h1.put b 1 [z]=h2 at *
  have nb:∀ {id:Nat} {o:AO},h1.obj id=some o->o.ty≠54->¬ id=b:=fun ho ht e=>by subst e;rw [b1] at ho;cases ho;exact ht rfl
  have g2:=TW.trans fT (TW.of_one (T:=TB) f2 rb.n.1 b1 rfl rfl)
  have bl:=h.lt _ _ rb.b
  have fin:=k.hk _ z xb xd yl h2 rfl ⟨⟨rb.n.1,fun id off n e=>by have:=hzs _ _ _ e;have:=rb.n.1;omega,rb.n.2.2⟩,b2,?_,?_,?_,sep_new hzs rb.s.toR⟩ g2
  ·simpa [F50.n1] using fin
  ·exact slL_frO hz f2 fun id o ho ht _=>nb ho (by rw [ht];decide)
  ·exact slL_frO s1 f2 fun id o ho ht _=>nb ho (by rw [ht];decide)
  ·exact d1.frO f2 fun id o ho ht=>nb ho (by rcases ht with e | e <;> rw [e] <;> decide)
theorem F50_b {t:Int} (k:DE W QR h n0 b i vr xr bk pl er xq xb xd yl rs y (.ok { bk with bs:=bk.bs++[⟨y.1.name,t,y.1.num⟩] })):F50.n10 W QR QN QE QP (.ptr b 0) (.ptr vr 0) (I t) h:=by
 have rb:=k.rb
 simp only [F50.n10,pNil_ptr,pFld_ptr,lLd_f,rb.b,k.or_,ldk_mk,zG,encRA,zA,zB,cellK_some]
 refine ⟨encRg ⟨y.1.name,t,y.1.num⟩,by simp [aFill,putCells,avC_int,avC_str,encRg],?_⟩
 refine appv (f:=encRg) (t:=⟨y.1.name,t,y.1.num⟩) encRg_len (by omega) rfl (by omega) rfl rfl rb.s ?_ (by have:=k.ln.2.1;omega) fun z h1 hz hzs f1=>?_
 ·intro id off n e
  rcases rb.s with ⟨e1,_⟩ | ⟨j,e1,ho⟩
  ·rw [e1] at e;cases e
  ·rw [e1] at e;cases e
   exact k.hW _ (.inl ⟨rb.n.2.2.1 _ _ _ e1,_,ho,rfl,rfl⟩)
 ·have fT:Fr h h1 (TW TB n0 h):=f1.mono fun j ⟨off,n,e⟩=>by
   rcases rb.s with ⟨e1,_⟩ | ⟨j',e1,ho⟩
   ·rw [e1] at e;cases e
   ·rw [e1] at e;cases e
    exact ⟨rb.n.2.2.1 _ _ _ e1,_,ho,rfl,rfl⟩
  have b1:=f1.obj rb.b (sl_ne rb.s rb.b (show (54:Nat)≠85 by decide))
  have q1:SlL encRg 3 85 h1 xq bk.qs:=slL_frO rb.q f1 fun id o ho ht e1 ⟨off,n,e⟩=>rb.sep _ _ _ _ _ e1 e
  have d1:DT h1 xd bk.ds yl:=rb.d.frO f1 fun id o ho ht he=>sl_ne rb.s ho (by rcases ht with e | e <;> rw [e] <;> show _≠(85:Nat) <;> decide) he
  simp only [pNil_ptr,pFld_ptr,eStore_f,b1,hz.toR.one.2,stk_mk,zG]
  refine ⟨⟨k.hW b (.inl ⟨rb.n.1,_,rb.b,rfl,rfl⟩),by show (oneA z&&true)=true;rw [hz.toR.one.1];rfl,rfl,by simp⟩,?_⟩
  have f2:Fr h1 (h1.put b 2 [z]) (·=b):=Fr.refl.put (.inl rfl)
  have b2:=put_mk (off:=2) (cs:=[z]) b1
  generalize h1.put b 2 [z]=h2 at *
  have nb:∀ {id:Nat} {o:AO},h1.obj id=some o->o.ty≠54->¬ id=b:=fun ho ht e=>by subst e;rw [b1] at ho;cases ho;exact ht rfl
  have g2:=TW.trans fT (TW.of_one (T:=TB) f2 rb.n.1 b1 rfl rfl)
  have bl:=h.lt _ _ rb.b
  have fin:=k.hk _ xq z xd yl h2 rfl ⟨⟨rb.n.1,rb.n.2.1,fun id off n e=>by have:=hzs _ _ _ e;have:=rb.n.1;omega,rb.n.2.2.2⟩,b2,?_,?_,?_,sep_old rb.q hzs⟩ g2
  ·simpa [F50.n1] using fin
  ·exact slL_frO q1 f2 fun id o ho ht _=>nb ho (by rw [ht];decide)
  ·exact slL_frO hz f2 fun id o ho ht _=>nb ho (by rw [ht];decide)
  ·exact d1.frO f2 fun id o ho ht=>nb ho (by rcases ht with e | e <;> rw [e] <;> decide)
theorem F50_qs (k:DE W QR h n0 b i vr xr bk pl er xq xb xd yl rs y (if y.1.num < 1 then .error 112 else if 64 - totalR bk.qs < y.1.num then .error 1 else .ok { bk with qs:=bk.qs++[⟨y.1.name,totalR bk.qs,y.1.num⟩] })):F50.n9 W QR QN QE QP (.ptr b 0) (I i) (.ptr vr 0) h:=by
 simp only [F50.n9,pFld_ptr,lLd_f,k.or_,ldk_mk,zG,encRA,zA,zB,cellK_some,pBin_lss]
 by_cases k1:y.1.num < 1
 ·rw [zX k1] at k
  simp only [zL k1,F50.n8,aIf_b,zD,zF,zC,zI,F50.n7]
  exact k.bad rfl
 ·rw [zW k1] at k
  have ok:=k.bf.i.ok
  simp only [zK k1,F50.n8,aIf_b,zE,zD,zC,zH,F50.n6,pNil_ptr,pFld_ptr,lLd_f,k.rb.b,ldk_mk,zG,zA,zB,cellK_some]
  refine ⟨fun _=>False,fun _ h=>h.elim,total_ok k.rb.q.toR (fun r hr=>by have:=ok.sq r hr;omega) ok.tq.2 (by have:=k.ln.1;omega) ?_⟩
  have ht:=ok.tq
  have w1:IntKind.i64.wrap (64 - totalR bk.qs)=64 - totalR bk.qs:=wrap_in (by omega) (by omega)
  simp only [F50.n5,pFld_ptr,lLd_f,k.or_,ldk_mk,zG,encRA,zA,zB,cellK_some,pBin_sub,w1,pBin_gtr,gt_iff_lt]
  by_cases k2:64 - totalR bk.qs < y.1.num
  ·rw [zX k2] at k
   simp only [zL k2,F50.n4,aIf_b,zD,zF,zC,zI,F50.n3]
   exact k.bad rfl
  ·rw [zW k2] at k
   simp only [zK k2,F50.n4,aIf_b,zE,zD,zC,zH]
   exact F50_q k
theorem F50_bs (k:DE W QR h n0 b i vr xr bk pl er xq xb xd yl rs y (if y.1.num < 1 then .error 112 else if 64 - totalR bk.bs < y.1.num then .error 1 else .ok { bk with bs:=bk.bs++[⟨y.1.name,totalR bk.bs,y.1.num⟩] })):F50.n17 W QR QN QE QP (.ptr b 0) (I i) (.ptr vr 0) h:=by
 simp only [F50.n17,pFld_ptr,lLd_f,k.or_,ldk_mk,zG,encRA,zA,zB,cellK_some,pBin_lss]
 by_cases k1:y.1.num < 1
 ·rw [zX k1] at k
  simp only [zL k1,F50.n16,aIf_b,zD,zF,zC,zI,F50.n15]
  exact k.bad rfl
 ·rw [zW k1] at k
  have ok:=k.bf.i.ok
  simp only [zK k1,F50.n16,aIf_b,zE,zD,zC,zH,F50.n14,pNil_ptr,pFld_ptr,lLd_f,k.rb.b,ldk_mk,zG,zA,zB,cellK_some]
  refine ⟨fun _=>False,fun _ h=>h.elim,total_ok k.rb.s.toR (fun r hr=>by have:=ok.sb r hr;omega) ok.tb.2 (by have:=k.ln.2.1;omega) ?_⟩
  have ht:=ok.tb
  have w1:IntKind.i64.wrap (64 - totalR bk.bs)=64 - totalR bk.bs:=wrap_in (by omega) (by omega)
  simp only [F50.n13,pFld_ptr,lLd_f,k.or_,ldk_mk,zG,encRA,zA,zB,cellK_some,pBin_sub,w1,pBin_gtr,gt_iff_lt]
  by_cases k2:64 - totalR bk.bs < y.1.num
  ·rw [zX k2] at k
   simp only [zL k2,F50.n12,aIf_b,zD,zF,zC,zI,F50.n11]
   exact k.bad rfl
  ·rw [zW k2] at k
   simp only [zK k2,F50.n12,aIf_b,zE,zD,zC,zH]
   exact F50_b k
end
end Go.Proofs.Ytjehibknlmehmaa
namespace Go.Proofs.Ytjehibknlmehmaa
open Go.Ab
attribute [-simp] eAlloc_d eStore_f
section
variable {W:Nat->Prop} {QR QN:VK} {QE:Nat->VK} {QP:AV->AH->Prop} {h:AH} {n0 b i vr:Nat} {xr:AV} {bk:Bk} {pl er:Int} {xq xb xd:AV} {yl:List (Dfn×AV)} {rs:List (Row×AV)} {y:Row×AV} {res:Er Bk}
theorem F50_d {vd:Nat} {d:Dfn} {xp:AV} (k:DE W QR h n0 b i vr xr bk pl er xq xb xd yl rs y (.ok { bk with ds:=bk.ds++[d] })) (ov:h.obj vd=some (mkO (encD (d,xp)) 7 78)) (hp:SlL encS 1 9 h xp d.params):F50.n18 W QR QN QE QP (.ptr b 0) (.ptr vd 0) h:=by
 have rb:=k.rb
 simp only [F50.n18,pNil_ptr,pFld_ptr,lLd_f,rb.b,ldk_mk,zG,zA,zB,cellK_some]
 refine var_ld ov rfl fun _=>?_
 refine appv (f:=encD) (t:=(d,xp)) encD_len (by omega) rfl (by omega) rfl (encD_one hp.toR.one.1) rb.d.t ?_ (by rw [rb.d.len];exact k.ln.2.2) fun z h1 hz hzs f1=>?_
 ·intro id off n e
  rcases rb.d.t with ⟨e1,_⟩ | ⟨j,e1,ho⟩
  ·rw [e1] at e;cases e
  ·rw [e1] at e;cases e
   exact k.hW _ (.inl ⟨rb.n.2.2.2 _ _ _ e1,_,ho,rfl,rfl⟩)
 ·have fT:Fr h h1 (TW TB n0 h):=f1.mono fun j ⟨off,n,e⟩=>by
   rcases rb.d.t with ⟨e1,_⟩ | ⟨j',e1,ho⟩
   ·rw [e1] at e;cases e
   ·rw [e1] at e;cases e
    exact ⟨rb.n.2.2.2 _ _ _ e1,_,ho,rfl,rfl⟩
  have b1:=f1.obj rb.b (sl_ne rb.d.t rb.b (show (54:Nat)≠78 by decide))
  have q1:SlL encRg 3 85 h1 xq bk.qs:=slL_frO rb.q f1 fun id o ho ht _=>sl_ne rb.d.t ho (by rw [ht];show (85:Nat)≠78;decide)
  have s1:SlL encRg 3 85 h1 xb bk.bs:=slL_frO rb.s f1 fun id o ho ht _=>sl_ne rb.d.t ho (by rw [ht];show (85:Nat)≠78;decide)
  have p1:∀ {z:AV} {l:List ByteArray},SlL encS 1 9 h z l->SlL encS 1 9 h1 z l:=fun hz=>slL_frO hz f1 fun id o ho ht _=>sl_ne rb.d.t ho (by rw [ht];show (9:Nat)≠78;decide)
  simp only [pNil_ptr,pFld_ptr,eStore_f,b1,hz.toR.one.2,stk_mk,zG]
  refine ⟨⟨k.hW b (.inl ⟨rb.n.1,_,rb.b,rfl,rfl⟩),by show (oneA z&&true)=true;rw [hz.toR.one.1];rfl,rfl,by simp⟩,?_⟩
  have f2:Fr h1 (h1.put b 3 [z]) (·=b):=Fr.refl.put (.inl rfl)
  have b2:=put_mk (off:=3) (cs:=[z]) b1
  generalize h1.put b 3 [z]=h2 at *
  have nb:∀ {id:Nat} {o:AO},h1.obj id=some o->o.ty≠54->¬ id=b:=fun ho ht e=>by subst e;rw [b1] at ho;cases ho;exact ht rfl
  have g2:=TW.trans fT (TW.of_one (T:=TB) f2 rb.n.1 b1 rfl rfl)
  have bl:=h.lt _ _ rb.b
  have p2:∀ {z:AV} {l:List ByteArray},SlL encS 1 9 h1 z l->SlL encS 1 9 h2 z l:=fun hz=>slL_frO hz f2 fun id o ho ht _=>nb ho (by rw [ht];decide)
  have fin:=k.hk _ xq xb z (yl++[(d,xp)]) h2 rfl ⟨⟨rb.n.1,rb.n.2.1,rb.n.2.2.1,fun id off n e=>by have:=hzs _ _ _ e;have:=rb.n.1;omega⟩,b2,?_,?_,⟨?_,by rw [List.map_append,rb.d.e];rfl,fun v hv=>?_⟩,rb.sep⟩ g2
  ·simpa [F50.n1] using fin
  ·exact slL_frO q1 f2 fun id o ho ht _=>nb ho (by rw [ht];decide)
  ·exact slL_frO s1 f2 fun id o ho ht _=>nb ho (by rw [ht];decide)
  ·exact slL_frO hz f2 fun id o ho ht _=>nb ho (by rw [ht];decide)
  ·rcases List.mem_append.1 hv with hv | hv
   ·exact p2 (p1 (rb.d.p v hv))
   ·have:=List.mem_singleton.1 hv
    subst this
    exact p2 (p1 hp)
def defT (bk:Bk) (r:Row) (i:Int):Er Bk:=if r.args.length=0 then .error 111
 else if r.args.any (fun a=>a.index != -1) then .error 112
 else if dupS (r.args.map (·.name)) then .error 113
 else .ok { bk with ds:=bk.ds++[⟨r.name,r.args.map (·.name),i+1,i+1+r.rows,1,0,false⟩] }
theorem F50_g (k:DE W QR h n0 b i vr xr bk pl er xq xb xd yl rs y (defT bk y.1 i)) (hi:(i:Int)<=1000000000) (hr:0<=y.1.rows/\y.1.rows<=1000000000):F50.n34 W QR QN QE QP (.ptr b 0) (I i) (.ptr vr 0) h:=by
 obtain ⟨ha,hl⟩:=k.rt.a y (zP k.hy)
 unfold defT at k
 simp only [F50.n34,pFld_ptr,lLd_f,k.or_,ldk_mk,zG,encRA,zA,zB,cellK_some,ha.len.1,ha.len.2,zH,pBin_eql]
 by_cases k1:y.1.args.length=0
 ·rw [zX k1] at k
  have k1':((y.1.args.length:Int)==0)=true:=by simp [k1]
  simp only [k1',F50.n33,aIf_b,zD,zF,zC,zI,F50.n32]
  exact k.bad rfl
 rw [zW k1] at k
 have k1':((y.1.args.length:Int)==0)=false:=by
  have:¬ (y.1.args.length:Int)=0:=by omega
  simpa using this
 have w1:∀ x:Int,0<=x/\x<=4000000000->IntKind.i64.wrap x=x:=fun x hx=>wrap_in (by omega) (by omega)
 simp only [k1',F50.n33,aIf_b,zE,zD,zC,zH,F50.n31,pFld_ptr,lLd_f,k.or_,ldk_mk,zG,encRA,zA,zB,cellK_some,pBin_add,w1 ((i:Int)+1) (by omega),w1 ((i:Int)+1+y.1.rows) (by omega)]
 refine ⟨[Sb y.1.name,nilS,I (i+1),I (i+1+y.1.rows),I 1,I 0,B true],by simp [aFill,putCells,avC_int,avC_str,avC_bool],?_⟩
 refine new_var (cs:=[Sb y.1.name,nilS,I (i+1),I (i+1+y.1.rows),I 1,I 0,B true]) rfl rfl rfl rfl (fun id hid=>k.hW id (.inr hid)) fun vd h1 f1 hvd ov=>?_
 unfold F50.n30 F50.n29
 refine vLoop_of (ι:=Nat×AV) (fun j v h'=>v=[.ptr b 0,I i,.ptr vr 0,.ptr vd 0,I j.1]/\j.1<=y.1.args.length/\Fr h h' (fun _=>False)/\h'.obj vd=some (mkO [Sb y.1.name,j.2,I (i+1),I (i+1+y.1.rows),I 1,I 0,B true] 7 78) /\
  SlL encS 1 9 h' j.2 ((y.1.args.take j.1).map (·.name))/\InS (h.next<=·) j.2/\∀ m a,m < j.1->y.1.args[m]?=some a->a.index=-1) (fun j=>y.1.args.length - j.1) (0,nilS) ⟨rfl,by omega,f1,ov,.nil,(fun _ _ _ e=>by cases e),fun m a h=>by omega⟩ ?_
 rintro K ⟨j,xp⟩ v h2 ⟨rfl,hj,f2,ov2,hp2,hps2,hb⟩ step
 simp only at hj ov2 hp2 hps2 hb step
 have k2:=k.fr0 f2
 have ha2:=ha.fr0 f2
 simp only [F50.g1_,zN,zO,F50.n28,pFld_ptr,lLd_f,k2.or_,ldk_mk,zG,encRA,zA,zB,cellK_some,ha2.len.1,ha2.len.2,zH,pBin_lss]
 by_cases hlt:j < y.1.args.length
 ·have hli:(j:Int) < y.1.args.length:=by omega
  have g1:y.1.args[j]?=some y.1.args[j]:=zJ hlt
  have hmem:=List.getElem_mem hlt
  have htk:y.1.args.take (j+1)=y.1.args.take j++[y.1.args[j]]:=by rw [List.take_add_one,g1];rfl
  generalize y.1.args[j]=a at *
  simp only [zL hli,F50.n27,aIf_b,zD,zF,zC,zI,F50.n26,pFld_ptr,lLd_f,k2.or_,ldk_mk,zG,encRA,zA,zB,cellK_some]
  refine rng_fld (k:=1) ha2 Arg.enc_len g1 (by omega) rfl fun _=>?_
  simp only [pBin_neq]
  by_cases e:a.index=-1
  ·have e':(a.index != -1)=false:=by simp [e]
   simp only [e',F50.n25,aIf_b,zE,zD,zC,zH,F50.n23,pFld_ptr,lLd_f,k2.or_,ov2,ldk_mk,zG,encRA,zA,zB,cellK_some]
   refine rng_fld (k:=0) ha2 Arg.enc_len g1 (by omega) rfl fun _=>?_
   refine appv (f:=encS) (t:=a.name) encS_len (by omega) rfl (by omega) rfl rfl hp2 (fun id off n e=>k.hW id (.inr (hps2 _ _ _ e))) (by rw [zZ,yA];omega) fun z h3 hz hzs f3=>?_
   have f03:Fr h h3 fun _=>False:=f2.trans (f3.mono fun m ⟨off,n,e⟩=>.inr (hps2 m off n e))
   have ov3:=f3.obj ov2 (sl_ne hp2 ov2 (show (78:Nat)≠9 by decide))
   have hvN:h.next<=vd:=hvd
   simp only [pFld_ptr,eStore_f,ov3,hz.toR.one.2,stk_mk,zG]
   refine ⟨⟨k.hW vd (.inr hvN),by show (oneA z&&true)=true;rw [hz.toR.one.1];rfl,rfl,by simp⟩,?_⟩
   have f4:Fr h3 (h3.put vd 1 [z]) (·=vd):=Fr.refl.put (.inl rfl)
   have f04:Fr h (h3.put vd 1 [z]) fun _=>False:=f03.put (.inr hvN)
   have ov4:=put_mk (off:=1) (cs:=[z]) ov3
   generalize h3.put vd 1 [z]=h4 at *
   have w2:IntKind.i64.wrap ((j:Int)+1)=((j+1:Nat):Int):=by rw [wrap_in (by omega) (by omega)];simp
   simp only [F50.n22,pBin_add,w2]
   refine step (j+1,z) _ h4 (by simp only;omega) ⟨rfl,by simp only;omega,f04,ov4,?_,fun id off n e=>zR f2.next (hzs _ _ _ e),fun m c hm hc=>?_⟩
   ·rw [htk,List.map_append]
    exact slL_frO hz f4 fun id o ho ht _ e=>by subst e;rw [ov3] at ho;cases ho;exact absurd ht (show (78:Nat)≠9 by decide)
   ·by_cases hmj:m=j
    ·subst hmj;rw [g1] at hc;cases hc;exact e
    ·exact hb m c (by simp only at hm;omega) hc
  ·have e':(a.index != -1)=true:=by simpa using e
   have hany:y.1.args.any (fun a=>a.index != -1)=true:=List.any_eq_true.2 ⟨a,hmem,e'⟩
   rw [zX hany] at k2
   simp only [e',F50.n25,aIf_b,zD,zF,zC,zI,F50.n24]
   exact k2.bad rfl
 ·have hnl:¬ (j:Int) < y.1.args.length:=by omega
  have ej:j=y.1.args.length:=by omega
  rw [ej,List.take_length] at hp2
  have hany:¬ y.1.args.any (fun a=>a.index != -1)=true:=fun hx=>by
   obtain ⟨a,h1,h2⟩:=List.any_eq_true.1 hx
   obtain ⟨m,hm⟩:=List.mem_iff_getElem?.1 h1
   have:=hb m a (by have:=(zM.1 hm).1;omega) hm
   simp [this] at h2
  rw [zW hany] at k2
  simp only [zK hnl,F50.n27,aIf_b,zE,zD,zC,zH,zV,F50.n21,zN,zO,pFld_ptr,lLd_f,ov2,ldk_mk,zG,zA,zB,cellK_some]
  refine ⟨fun _=>False,fun _ h=>h.elim,twice_ok hp2.toR (by rw [zZ];exact hl) ?_⟩
  cases hd:dupS (y.1.args.map (·.name)) with
  | true=>
   rw [hd,zX rfl] at k2
   simp only [F50.n20,aIf_b,zD,zF,zC,zI,F50.n19]
   exact k2.bad rfl
  | false=>
   rw [hd,zW (by decide)] at k2
   simp only [F50.n20,aIf_b,zE,zD,zC,zH]
   exact F50_d k2 ov2 hp2
theorem F50_name (k:DE W QR h n0 b i vr xr bk pl er xq xb xd yl rs y res) (hd:y.1.kind=sQubits\/y.1.kind=sBits\/y.1.kind=sGate) (hr:res=rowP bk none i y.1) (hi:(i:Int)<=1000000000) (hrr:0<=y.1.rows/\y.1.rows<=1000000000):F50.n42 W QR QN QE QP (.ptr b 0) (I i) (.ptr vr 0) h:=by
 have ln:=k.ln
 simp only [F50.n42,pFld_ptr,lLd_f,k.or_,ldk_mk,zG,encRA,zA,zB,cellK_some]
 refine ⟨fun _=>False,fun _ h=>h.elim,takenR_ok k.rb ⟨by omega,by omega,ln.2.2⟩ fun h1 f1=>?_⟩
 have k1:=k.fr0 f1
 have n2:sBits≠sQubits:=by decide
 have n3:sGate≠sQubits:=by decide
 have n4:sGate≠sBits:=by decide
 have e1:(⟨#[113,117,98,105,116,115]⟩:ByteArray)=sQubits:=rfl
 have e2:(⟨#[98,105,116,115]⟩:ByteArray)=sBits:=rfl
 cases ht:takenB bk y.1.name with
 | true=>
  have hre:res=.error 110:=by
   rw [hr]
   unfold rowP
   rcases hd with hd | hd | hd
   ·rw [hd,zX rfl];unfold declP;rw [zX ht];rfl
   ·rw [hd,zW n2,zX rfl];unfold declP;rw [zX ht];rfl
   ·rw [hd,zW n3,zW n4,zX rfl];unfold defP;rw [zX ht]
  simp only [F50.n41,aIf_b,zD,zF,zC,zI,F50.n40]
  exact k1.bad hre
 | false=>
  have ht':¬ takenB bk y.1.name=true:=by rw [ht];decide
  simp only [F50.n41,aIf_b,zE,zD,zC,zH,F50.n39,pFld_ptr,lLd_f,k1.or_,ldk_mk,zG,encRA,zA,zB,cellK_some,F50.n38,pBin_seql,e1]
  rcases hd with hd | hd | hd
  ·have hre:res=if y.1.num < 1 then .error 112 else if 64 - totalR bk.qs < y.1.num then .error 1 else .ok { bk with qs:=bk.qs++[⟨y.1.name,totalR bk.qs,y.1.num⟩] }:=by
    rw [hr]
    unfold rowP
    rw [hd,zX rfl];unfold declP;rw [zW ht']
    split
    ·rfl
    ·split <;> rfl
   rw [hre] at k1
   simp only [zL hd,F50.n37,aIf_b,zD,zF,zC,zI]
   exact F50_qs k1
  ·have hre:res=if y.1.num < 1 then .error 112 else if 64 - totalR bk.bs < y.1.num then .error 1 else .ok { bk with bs:=bk.bs++[⟨y.1.name,totalR bk.bs,y.1.num⟩] }:=by
    rw [hr]
    unfold rowP
    rw [hd,zW n2,zX rfl];unfold declP;rw [zW ht']
    split
    ·rfl
    ·split <;> rfl
   rw [hre] at k1
   simp only [hd,zK n2,F50.n37,aIf_b,zE,zD,zC,zH,F50.n36,pBin_seql,e2,decide_true,F50.n35,zF,zI]
   exact F50_bs k1
  ·have hre:res=defT bk y.1 i:=by
    rw [hr]
    unfold rowP
    rw [hd,zW n3,zW n4,zX rfl];unfold defP;rw [zW ht'];rfl
   rw [hre] at k1
   simp only [hd,zK n3,F50.n37,aIf_b,zE,zD,zC,zH,F50.n36,pBin_seql,e2,zK n4,F50.n35]
   exact F50_g k1 hi hrr
end
section
variable {h:AH} {M:Nat->Prop} {R:AE->AH->Prop} {n0 b i:Nat} {xr:AV} {bk:Bk} {pl er:Int} {xq xb xd:AV} {yl:List (Dfn×AV)} {rs:List (Row×AV)} {y:Row×AV}
theorem declared_ok (rb:RB n0 h b xr bk pl er xq xb xd yl) (rt:RT h xr rs) (hy:rs[i]?=some y) (bf:BkF bk) (ln:bk.qs.length<=64/\bk.bs.length<=64/\bk.ds.length<=100000000) (hd:y.1.kind=sQubits\/y.1.kind=sBits\/y.1.kind=sGate) (hrr:0<=y.1.rows/\y.1.rows<=1000000000) (hM:∀ id,TW TB n0 h id->M id)
  (he:∀ e h',rowP bk none i y.1=.error e->BE h' b y.1.place e->Fr h h' (TW TB n0 h)->R (.ret (B false)) h')
  (hk:∀ bk' xq' xb' xd' yl' h',rowP bk none i y.1=.ok bk'->RB n0 h' b xr bk' pl er xq' xb' xd' yl'->Fr h h' (TW TB n0 h)->R (.ret (B true)) h'):ACalls Try.prog 50 [.ptr b 0,I i] h M R:=by
 apply F50.callsN
 simp only [F50.n44,F50.n43,pNil_ptr,pFld_ptr,lLd_f,rb.b,ldk_mk,zG,zA,cellK_some]
 refine rng_var rt.r encRA_len (rt.one hy) hy rfl rfl (fun id hid=>.inr hid) fun vr h1 f1 _ or1=>?_
 have hi:=(zM.1 hy).1
 have hn:=rt.n
 refine F50_name (res:=rowP bk none i y.1) ⟨rb.fr0 f1,rt.fr0 f1,hy,or1,fun id hid=>hid.elim (fun hid=>(TW.back (TW.of_fr f1) hid).elim (fun h=>.inl (hM id h)) .inr) (fun hid=>.inr (zR f1.next hid)),bf,ln,?_,?_⟩ hd rfl (by omega) hrr
 ·intro e h' h2 h3 f2
  simpa using he e h' h2 h3 (TW.trans (TW.of_fr f1) f2)
 ·intro bk' xq' xb' xd' yl' h' h2 h3 f2
  simpa using hk bk' xq' xb' xd' yl' h' h2 h3 (TW.trans (TW.of_fr f1) f2)
end
end Go.Proofs.Ytjehibknlmehmaa
namespace Go.Proofs.Ytjehibknlmehmaa
open Go.Ab
attribute [-simp] eAlloc_d eStore_f
theorem put_field {α:Type} {f:α->List AV} {k:Nat} (hf:∀ x,(f x).length=k):∀ {l:List α} {i o:Nat} {x y:α} {v:AV},l[i]?=some x->o < k->(f x).set o v=f y->putCells (l.flatMap f) (i * k+o) [v]=(l.set i y).flatMap f
 | [],i,o,x,y,v,h,_,_=>by simp at h
 | a::l,0,o,x,y,v,h,ho,hv=>by
  simp at h;subst h
  simp only [putCells,Nat.zero_mul,zG,List.set_cons_zero,List.flatMap_cons]
  rw [List.set_append_left _ _ (by rw [hf];exact ho),hv]
 | a::l,i+1,o,x,y,v,h,ho,hv=>by
  simp at h
  have ih:=put_field hf (l:=l) (i:=i) (o:=o) (y:=y) (v:=v) h ho hv
  simp only [putCells] at ih ⊢
  simp only [List.set_cons_succ,List.flatMap_cons]
  have e:(i+1) * k+o=(f a).length+(i * k+o):=by rw [hf,Nat.succ_mul];omega
  rw [e,List.set_append_right _ _ (by omega),Nat.add_sub_cancel_left,ih]
theorem DT.setF {h:AH} {xd:AV} {ds:List Dfn} {yl:List (Dfn×AV)} (a:DT h xd ds yl) {k:Nat} {d:Dfn} (hd:ds[k]?=some d) {f:Dfn->Dfn} (hp:(f d).params=d.params) {o:Nat} {v:AV} (ho:o < 7) (hv:∀ x,(encD (d,x)).set o v=encD (f d,x)) :
  ∃ id,xd=.sl id 0 ds.length/\∃ cells,h.obj id=some (mkO cells 7 78)/\k * 7+o < cells.length/\∀ h',h'.obj id=some { cells:=putCells cells (k * 7+o) [v],sz:=7,ty:=78 }->Fr h h' (·=id)->∃ yl',DT h' xd (ds.modify k f) yl':=by
 obtain ⟨x,hy,hpx⟩:=a.at_ hd
 have hlen:=a.len
 rcases a.t with ⟨_,e⟩ | ⟨id,e1,e2⟩
 ·rw [e] at hy;simp at hy
 ·refine ⟨id,by rw [e1,hlen],_,e2,?_,fun h' ho' hf=>⟨yl.set k (f d,x),⟨?_,?_,fun y hy'=>?_⟩⟩⟩
  ·have:=(zM.1 hy).1
   rw [flat_len encD_len]
   omega
  ·refine .inr ⟨id,by rw [e1,List.length_set],?_⟩
   rw [ho',put_field encD_len hy ho (hv x)]
  ·rw [List.map_set,a.e]
   apply List.ext_getElem?
   intro i
   rw [getElem?_modify',List.getElem?_set]
   by_cases hk:k=i
   ·subst hk
    rw [zX rfl,zX rfl,zX (zM.1 hd).1,hd];rfl
   ·rw [zW hk,zW hk]
  ·have keep:∀ {z:AV} {l:List ByteArray},SlL encS 1 9 h z l->SlL encS 1 9 h' z l:=fun hz=>slL_frO hz hf fun i o ho ht _ e=>by subst e;rw [e2] at ho;cases ho;exact absurd ht (show (78:Nat)≠9 by decide)
   rcases List.mem_or_eq_of_mem_set hy' with h1 | h1
   ·exact keep (a.p y h1)
   ·subst h1
    rw [show (f d,x).1.params=(f d).params from rfl,hp]
    exact keep hpx
def BkD (bk:Bk):Prop:=∀ d∈bk.ds,d.depth<=32/\d.params≠[]
theorem arg44:flatEq Try.prog 44=some [true,false]:=by kernel_rfl
theorem cmpArg (a c:Arg):aggCmp Try.prog 44 a.enc c.enc=some (decide (argKey a=argKey c)):=by
 unfold aggCmp
 rw [arg44]
 simp only [Option.bind_some,aggEq,Arg.enc,yB,Bool.and_true]
 by_cases h1:a.name=c.name <;> by_cases h2:a.index=c.index <;> simp [argKey,h1,h2]
def ownI (own:Option Nat):Int:=match own with | some k=>k | none=>-1
section
variable {W:Nat->Prop} {QR QN:VK} {QE:Nat->VK} {QP:AV->AH->Prop} {h:AH} {n0 b i vr:Nat} {xr:AV} {bk:Bk} {pl er:Int} {xq xb xd:AV} {yl:List (Dfn×AV)} {rs:List (Row×AV)} {y:Row×AV} {res:Er Bk} {own:Option Nat} {dp:Int}
theorem RB.setD (rb:RB n0 h b xr bk pl er xq xb xd yl) {k:Nat} {d:Dfn} (hd:bk.ds[k]?=some d) {f:Dfn->Dfn} (hp:(f d).params=d.params) {o:Nat} {v:AV} (ho:o < 7) (hv:∀ x,(encD (d,x)).set o v=encD (f d,x)) :
  ∃ id,xd=.sl id 0 bk.ds.length/\∃ cells,h.obj id=some (mkO cells 7 78)/\k * 7+o < cells.length/\n0<=id/\∀ h',h'.obj id=some { cells:=putCells cells (k * 7+o) [v],sz:=7,ty:=78 }->Fr h h' (·=id)->∃ yl',RB n0 h' b xr { bk with ds:=bk.ds.modify k f } pl er xq xb xd yl'/\Fr h h' (TW TB n0 h):=by
 obtain ⟨id,e1,cells,e2,e3,e4⟩:=rb.d.setF hd hp ho hv
 have hn:=rb.n.2.2.2 _ _ _ e1
 refine ⟨id,e1,cells,e2,e3,hn,fun h' ho' hf=>?_⟩
 obtain ⟨yl',hdt⟩:=e4 h' ho' hf
 have ne:∀ {j:Nat} {o:AO},h.obj j=some o->o.ty≠78->¬ j=id:=fun ho ht e=>by subst e;rw [e2] at ho;cases ho;exact ht rfl
 exact ⟨yl',⟨rb.n,hf.obj rb.b (ne rb.b (show (54:Nat)≠78 by decide)),slL_frO rb.q hf fun _ _ ho ht _=>ne ho (by rw [ht];decide),slL_frO rb.s hf fun _ _ ho ht _=>ne ho (by rw [ht];decide),hdt,rb.sep⟩,TW.of_one hf hn e2 rfl rfl⟩
theorem deepen_le {k:Nat} {d:Dfn} {n:Int} (hd:bk.ds[k]?=some d) (hn:n<=d.depth):deepen bk (some k) n=bk:=by
 unfold deepen
 simp only
 have:bk.ds.modify k (fun d=>{ d with depth:=max d.depth n })=bk.ds:=by
  apply List.ext_getElem?
  intro i
  rw [getElem?_modify']
  by_cases hk:k=i
  ·subst hk
   rw [zX rfl,hd]
   simp only [yB,zQ]
   rw [Int.max_eq_left hn]
  ·rw [zW hk]
 rw [this]
theorem F51_deep (k:DE W QR h n0 b i vr xr bk pl er xq xb xd yl rs y (if own.isSome=true/\32 < dp+1 then .error 102 else .ok (deepen bk own (dp+1)))) (hd:BkD bk) (ho:∀ k,own=some k->k < bk.ds.length) (hdp:0<=dp/\dp<=1000) :
  F51.n9 W QR QN QE QP (.ptr b 0) (I i) (I (ownI own)) (I dp) h:=by
 have w1:IntKind.i64.wrap (dp+1)=dp+1:=wrap_in (by omega) (by omega)
 cases own with
 | none=>
  have e:decide ((-1:Int)>=0)=false:=rfl
  show F51.n9 W QR QN QE QP (.ptr b 0) (I i) (I (-1)) (I dp) h
  simp only [F51.n9,pBin_geq,e,F51.n8,aIg_b,zS,zE,zD,zC,zH,F51.n7,pPick_b,if_false,F51.n6,aIf_b,F51.n1]
  exact k.hk bk xq xb xd yl h (by simp [deepen]) k.rb (TW.of_fr Fr.refl)
 | some j=>
  have e:(j:Int)>=0:=by omega
  show F51.n9 W QR QN QE QP (.ptr b 0) (I i) (I (j:Int)) (I dp) h
  have hlt:=ho j rfl
  have hdj:bk.ds[j]?=some bk.ds[j]:=zJ hlt
  generalize bk.ds[j]=d at *
  obtain ⟨x,hyj,_⟩:=k.rb.d.at_ hdj
  have h32:=(hd d (zP hdj)).1
  simp only [F51.n9,pBin_geq,zL e,F51.n8,aIg_b,zS,zD,zF,zC,zI,pBin_add,w1,pNil_ptr,pFld_ptr,lLd_f,k.rb.b,ldk_mk,zG,zA,zB,cellK_some]
  refine rng_fld (k:=4) k.rb.d.t.toR encD_len hyj (by omega) rfl fun _=>?_
  simp only [pBin_gtr,gt_iff_lt]
  by_cases k1:d.depth < dp+1
  ·obtain ⟨id,e1,cells,e2,e3,hn,e4⟩:=k.rb.setD hdj (f:=fun d=>{ d with depth:=max d.depth (dp+1) }) rfl (o:=4) (v:=I (dp+1)) (by omega) (fun x=>by simp [encD];omega)
   simp only [zL k1,F51.n7,pPick_b,zV,F51.n6,aIf_b,zD,zF,zC,zI,F51.n5,pNil_ptr,pFld_ptr,lLd_f,k.rb.b,ldk_mk,zG,zA,zB,cellK_some,pBin_add,w1,e1,pIxA_sl,zY,eStore_f,e2,avC_int,stk_mk]
   refine ⟨⟨by omega,by omega⟩,⟨k.hW id (.inl ⟨hn,_,e2,rfl,rfl⟩),rfl,rfl,by omega⟩,?_⟩
   have f1:Fr h (h.put id (j * 7+4) [I (dp+1)]) (·=id):=Fr.refl.put (.inl rfl)
   have o1:=put_mk (off:=j * 7+4) (cs:=[I (dp+1)]) e2
   generalize h.put id (j * 7+4) [I (dp+1)]=h1 at *
   obtain ⟨yl',rb1,g1⟩:=e4 h1 o1 f1
   simp only [F51.n4,pBin_add,w1,pBin_gtr,gt_iff_lt]
   by_cases k2:32 < dp+1
   ·simp only [zL k2,F51.n3,aIf_b,zD,zF,zC,zI,F51.n2]
    refine ⟨TW TB n0 h1,fun id hs _=>k.hW id (TW.back g1 hs),bad_ok rb1.bn ?_ k.hy (fun _ h=>h) fun h2 be f2=>k.he 102 h2 (by rw [zX ⟨rfl,k2⟩]) be (TW.trans g1 f2)⟩
    exact ⟨k.rt.r.frT g1 rfl,fun y hy=>⟨(k.rt.a y hy).1.frT g1 rfl,(k.rt.a y hy).2⟩,k.rt.n⟩
   ·simp only [zK k2,F51.n3,aIf_b,zE,zD,zC,zH,F51.n1]
    exact k.hk _ xq xb xd yl' h1 (by rw [zW (fun h=>k2 h.2)];rfl) rb1 g1
  ·simp only [zK k1,F51.n7,pPick_b,zV,F51.n6,aIf_b,zE,zD,zC,zH,F51.n1]
   refine k.hk bk xq xb xd yl h ?_ k.rb (TW.of_fr Fr.refl)
   rw [zW (by simp;omega),deepen_le hdj (by omega)]
theorem F51_dup (k:DE W QR h n0 b i vr xr bk pl er xq xb xd yl rs y (if dupA y.1.args then .error 113 else if own.isSome=true/\32 < dp+1 then .error 102 else .ok (deepen bk own (dp+1)))) (hd:BkD bk) (ho:∀ k,own=some k->k < bk.ds.length) (hdp:0<=dp/\dp<=1000) :
  F51.n22 W QR QN QE QP (.ptr b 0) (I i) (I (ownI own)) (.ptr vr 0) (I y.1.args.length) (I dp) h:=by
 obtain ⟨ha,hl⟩:=k.rt.a y (zP k.hy)
 unfold F51.n22 F51.n21
 refine vLoop_of (ι:=Nat) (fun m v h'=>v=[.ptr b 0,I i,I (ownI own),.ptr vr 0,I y.1.args.length,I dp,I m]/\m<=y.1.args.length/\h'=h/\∀ j a,j < m->(y.1.args.map argKey)[j]?=some a->memB a ((y.1.args.map argKey).take j)=false) (fun m=>y.1.args.length - m) 0 ⟨rfl,by omega,rfl,fun j a h=>by omega⟩ ?_
 rintro K m v h' ⟨rfl,hm,rfl,hb⟩ step
 simp only [F51.g1_,zN,zO,F51.n20,pBin_lss]
 by_cases hlt:m < y.1.args.length
 ·have hli:(m:Int) < y.1.args.length:=by omega
  have g1:y.1.args[m]?=some y.1.args[m]:=zJ hlt
  have w1:IntKind.i64.wrap ((m:Int)+1)=((m+1:Nat):Int):=by rw [wrap_in (by omega) (by omega)];simp
  have gm:(y.1.args.map argKey)[m]?=some (argKey y.1.args[m]):=by rw [List.getElem?_map,g1];rfl
  simp only [zL hli,F51.n19,aIf_b,zD,zF,zC,zI,F51.n18]
  unfold F51.n17
  refine vLoop_of (ι:=Nat) (fun j v h1=>v=[.ptr b 0,I i,I (ownI own),.ptr vr 0,I y.1.args.length,I dp,I m,I j]/\j<=m/\h1=h'/\memB (argKey y.1.args[m]) ((y.1.args.map argKey).take j)=false) (fun j=>m - j) 0 ⟨rfl,by omega,rfl,rfl⟩ ?_
  rintro K2 j v h1 ⟨rfl,hj,rfl,hmm⟩ step2
  simp only [F51.g2_,zN,zO,F51.n16,pBin_lss]
  by_cases hjl:j < m
  ·have hji:(j:Int) < m:=by omega
   have hjN:j < y.1.args.length:=by omega
   have g2:y.1.args[j]?=some y.1.args[j]:=zJ hjN
   have w2:IntKind.i64.wrap ((j:Int)+1)=((j+1:Nat):Int):=by rw [wrap_in (by omega) (by omega)];simp
   have tk:(y.1.args.map argKey).take (j+1)=(y.1.args.map argKey).take j++[argKey y.1.args[j]]:=by
    rw [List.take_add_one,List.getElem?_map,g2];rfl
   have hmem:argKey y.1.args[j]∈(y.1.args.map argKey).take m:=List.mem_take_iff_getElem.2 ⟨j,by simp;omega,by simp⟩
   generalize y.1.args[j]=c at *
   generalize y.1.args[m]=a at *
   simp only [zL hji,F51.n15,aIf_b,zD,zF,zC,zI,F51.n14,pFld_ptr,lLd_f,k.or_,ldk_mk,zG,encRA,zA,zB,cellK_some]
   refine rng_at ha Arg.enc_len g1 fun _=>?_
   refine rng_at ha Arg.enc_len g2 fun _=>?_
   refine ⟨by rw [cmpArg];rfl,?_⟩
   rw [cmpArg]
   simp only [Option.getD_some]
   by_cases e:argKey a=argKey c
   ·have hdd:dupA y.1.args=true:=dupG_at gm (by rw [memB_mem,e];simpa using hmem)
    rw [zX hdd] at k
    simp only [zL e,F51.n13,aIf_b,zD,zF,zC,zI,F51.n12]
    exact k.bad rfl
   ·simp only [zK e,F51.n13,aIf_b,zE,zD,zC,zH,F51.n11,pBin_add,w2]
    refine step2 (j+1) _ _ (by omega) ⟨rfl,by omega,rfl,?_⟩
    rw [memB_mem] at hmm ⊢
    rw [tk]
    simp only [decide_eq_false_iff_not,List.mem_append,List.mem_singleton,not_or] at hmm ⊢
    exact ⟨hmm,e⟩
  ·have hnl:¬ (j:Int) < m:=by omega
   have ek:j=m:=by omega
   subst ek
   simp only [zK hnl,F51.n15,aIf_b,zE,zD,zC,zH,zV,F51.n10,zN,zO,pBin_add,w1]
   refine step (j+1) _ _ (by omega) ⟨rfl,by omega,rfl,fun q a hq ha=>?_⟩
   by_cases hjk:q=j
   ·subst hjk
    rw [gm] at ha;cases ha
    exact hmm
   ·exact hb q a (by omega) ha
 ·have hnl:¬ (m:Int) < y.1.args.length:=by omega
  have hdd:dupA y.1.args=false:=dupG_no fun j a hj=>hb j a (by have:=(zM.1 hj).1;rw [zZ] at this;omega) hj
  rw [hdd,zW (by decide)] at k
  simp only [zK hnl,F51.n19,aIf_b,zE,zD,zC,zH,zV,zN,zO]
  exact F51_deep k hd ho hdp
end
end Go.Proofs.Ytjehibknlmehmaa
namespace Go.Proofs.Ytjehibknlmehmaa
open Go.Ab
attribute [-simp] eAlloc_d eStore_f
section
variable {W:Nat->Prop} {QR QN:VK} {QE:Nat->VK} {QP:AV->AH->Prop} {h:AH} {n0 b i vr:Nat} {xr:AV} {bk:Bk} {pl er:Int} {xq xb xd:AV} {yl:List (Dfn×AV)} {rs:List (Row×AV)} {y:Row×AV} {res:Er Bk} {own:Option Nat} {dp:Int}
def dupT (bk:Bk) (own:Option Nat) (r:Row) (dp:Int):Er Bk:=if dupA r.args then .error 113 else if own.isSome=true/\32 < dp+1 then .error 102 else .ok (deepen bk own (dp+1))
def argT (bk:Bk) (own:Option Nat) (r:Row) (dp:Int):Er Bk:=if firstE (useArg bk (ownD bk own)) r.args≠0 then .error (firstE (useArg bk (ownD bk own)) r.args) else dupT bk own r dp
theorem F51_args (k:DE W QR h n0 b i vr xr bk pl er xq xb xd yl rs y (argT bk own y.1 dp)) (hd:BkD bk) (ho:∀ k,own=some k->k < bk.ds.length) (hdp:0<=dp/\dp<=1000) :
  F51.n40 W QR QN QE QP (.ptr b 0) (I i) (I (ownI own)) (.ptr vr 0) (I y.1.args.length) (I dp) h:=by
 obtain ⟨ha,hl⟩:=k.rt.a y (zP k.hy)
 unfold argT at k
 unfold F51.n40 F51.n39
 refine vLoop_of (ι:=Nat) (fun m v h'=>v=[.ptr b 0,I i,I (ownI own),.ptr vr 0,I y.1.args.length,I dp,I m]/\m<=y.1.args.length/\Fr h h' (fun _=>False)/\∀ j a,j < m->y.1.args[j]?=some a->useArg bk (ownD bk own) a=0) (fun m=>y.1.args.length - m) 0 ⟨rfl,by omega,Fr.refl,fun j a h=>by omega⟩ ?_
 rintro K m v h1 ⟨rfl,hm,f1,hb⟩ step
 simp only [F51.g3_,zN,zO,F51.n38,pBin_lss]
 have k1:=k.fr0 f1
 by_cases hlt:m < y.1.args.length
 ·have hli:(m:Int) < y.1.args.length:=by omega
  have g1:y.1.args[m]?=some y.1.args[m]:=zJ hlt
  generalize y.1.args[m]=a at *
  have w1:IntKind.i64.wrap ((m:Int)+1)=((m+1:Nat):Int):=by rw [wrap_in (by omega) (by omega)];simp
  simp only [zL hli,F51.n37,aIf_b,zD,zF,zC,zI,F51.n36,pFld_ptr,lLd_f,k1.or_,ldk_mk,zG,encRA,zA,zB,cellK_some]
  refine rng_var (ha.fr0 f1) Arg.enc_len (Arg.enc_one a) g1 rfl rfl (fun id hid=>k1.hW id (.inr hid)) fun va h2 f2 _ oa=>?_
  have k2:=k1.fr0 f2
  have f02:=f1.tr0 f2
  have good:∀ h3,Fr h h3 (fun _=>False)->useArg bk (ownD bk own) a=0->F51.n23 W QR K (fun (i_1:Nat) (vs:List AV) (h:AH)=>if i_1=0 then F51.n22 W QR QN QE QP (vs.getD 0 noA) (vs.getD 1 noA) (vs.getD 2 noA) (vs.getD 3 noA) (vs.getD 4 noA) (vs.getD 5 noA) h else QE i_1 vs h) QP (.ptr b 0) (I i) (I (ownI own)) (.ptr vr 0) (I y.1.args.length) (I dp) (I m) h3:=fun h3 f3 hu=>by
   simp only [F51.n23,pBin_add,w1]
   refine step (m+1) _ h3 (by omega) ⟨rfl,by omega,f3,fun j c hj hc=>?_⟩
   by_cases hjm:j=m
   ·subst hjm;rw [g1] at hc;cases hc;exact hu
   ·exact hb j c (by omega) hc
  have herr:∀ e,useArg bk (ownD bk own) a=e->e≠0->(if firstE (useArg bk (ownD bk own)) y.1.args≠0 then Except.error (firstE (useArg bk (ownD bk own)) y.1.args) else dupT bk own y.1 dp:Er Bk)=.error e:=fun e h1 h2=>by
   have:=firstE_at (f:=useArg bk (ownD bk own)) g1 (by rw [h1];exact h2) hb
   rw [this,h1,zX h2]
  cases own with
  | none=>
   show F51.n35 _ _ _ _ _ _ _ (I (-1)) _ _ _ _ _ _
   have e:decide ((-1:Int) < 0)=true:=rfl
   simp only [F51.n35,pBin_lss,e,F51.n34,aIf_b,zD,zF,zC,zI,F51.n33]
   refine var_ld oa rfl fun _=>?_
   simp only [pNil_ptr,pFld_ptr,lLd_f,k2.rb.b,ldk_mk,zG,zA,zB,cellK_some]
   refine ⟨TW TB n0 h2,fun id hs _=>k2.hW id (.inl hs),arg_ok k2.rb.bn k2.rt k2.hy k2.rb.q.toR (by have:=k.ln.1;omega) (fun _ h=>h) ?_ ?_⟩
   ·intro h3 h0 be f3
    simp only [pUn_not,zT,F51.n32,aIf_b,zD,zF,zC,zI,F51.n31]
    exact k2.he _ h3 (herr _ rfl h0) be f3
   ·intro h3 h0 f3
    simp only [pUn_not,zS,F51.n32,aIf_b,zE,zD,zC,zH,F51.n30]
    exact good h3 (f02.tr0 f3) h0
  | some j=>
   show F51.n35 _ _ _ _ _ _ _ (I (j:Int)) _ _ _ _ _ _
   have e:¬ (j:Int) < 0:=by omega
   have hltj:=ho j rfl
   have hdj:bk.ds[j]?=some bk.ds[j]:=zJ hltj
   have hown:ownD bk (some j)=some bk.ds[j]:=by unfold ownD;simp only [Option.bind_some];exact hdj
   rw [hown] at herr good
   generalize bk.ds[j]=d at *
   obtain ⟨x,hyj,hpx⟩:=k2.rb.d.at_ hdj
   have hpl:=(k.bf.i.ok.ds d (zP hdj)).1
   unfold useArg at herr good
   simp only at herr good
   simp only [F51.n35,pBin_lss,zK e,F51.n34,aIf_b,zE,zD,zC,zH,F51.n29,pFld_ptr,lLd_f,oa,ldk_mk,zG,Arg.enc,zA,zB,cellK_some,pBin_neq]
   by_cases e1:a.index=-1
   ·have e1':(a.index != -1)=false:=by simp [e1]
    rw [zW (by simpa using e1)] at good
    simp only [e1',F51.n28,aIf_b,zE,zD,zC,zH,F51.n26,pNil_ptr,pFld_ptr,lLd_f,k2.rb.b,ldk_mk,zG,zA,zB,cellK_some]
    refine rng_fld (k:=1) k2.rb.d.t.toR encD_len hyj (by omega) rfl fun _=>?_
    simp only [pFld_ptr,lLd_f,oa,ldk_mk,zG,Arg.enc,zA,cellK_some]
    refine ⟨fun _=>False,fun _ h=>h.elim,place_ok hpx.toR hpl ?_⟩
    cases hix:idxN a.name d.params 0 with
    | some q=>
     have hmm:memB a.name d.params=true:=by unfold memB;rw [hix];rfl
     have e2:¬ (q:Int) < 0:=by omega
     simp only [pBin_lss,zK e2,F51.n25,aIf_b,zE,zD,zC,zH]
     exact good h2 f02 (by rw [hmm];rfl)
    | none=>
     have hmm:memB a.name d.params=false:=by unfold memB;rw [hix];rfl
     have e2:(-1:Int) < 0:=by omega
     simp only [pBin_lss,zL e2,F51.n25,aIf_b,zD,zF,zC,zI,F51.n24]
     refine k2.bad ?_
     rw [hown]
     exact herr 110 (by rw [zW (by simpa using e1),hmm];rfl) (by decide)
   ·have e1':(a.index != -1)=true:=by simpa using e1
    simp only [e1',F51.n28,aIf_b,zD,zF,zC,zI,F51.n27]
    refine k2.bad ?_
    rw [hown]
    exact herr 112 (by rw [zX e1]) (by decide)
 ·have hnl:¬ (m:Int) < y.1.args.length:=by omega
  have hno:firstE (useArg bk (ownD bk own)) y.1.args=0:=firstE_no fun j a hj=>hb j a (by have:=(zM.1 hj).1;omega) hj
  rw [zW (by simpa using hno)] at k1
  simp only [zK hnl,F51.n37,aIf_b,zE,zD,zC,zH,zV,zN,zO]
  exact F51_dup k1 hd ho hdp
theorem F51_len {n:Int} (k:DE W QR h n0 b i vr xr bk pl er xq xb xd yl rs y (if (y.1.args.length:Int)≠n then .error 111 else argT bk own y.1 dp)) (hd:BkD bk) (ho:∀ k,own=some k->k < bk.ds.length) (hdp:0<=dp/\dp<=1000) :
  F51.n43 W QR QN QE QP (.ptr b 0) (I i) (I (ownI own)) (.ptr vr 0) (I n) (I dp) h:=by
 obtain ⟨ha,hl⟩:=k.rt.a y (zP k.hy)
 simp only [F51.n43,pFld_ptr,lLd_f,k.or_,ldk_mk,zG,encRA,zA,zB,cellK_some,ha.len.1,ha.len.2,zH,pBin_neq]
 by_cases e:(y.1.args.length:Int)=n
 ·have e':((y.1.args.length:Int) != n)=false:=by simp [e]
  rw [zW (by simpa using e)] at k
  simp only [e',F51.n42,aIf_b,zE,zD,zC,zH]
  rw [<-e]
  exact F51_args k hd ho hdp
 ·have e':((y.1.args.length:Int) != n)=true:=by simpa using e
  rw [zX e] at k
  simp only [e',F51.n42,aIf_b,zD,zF,zC,zI,F51.n41]
  exact k.bad rfl
theorem F51_name (k:DE W QR h n0 b i vr xr bk pl er xq xb xd yl rs y (if (wants bk y.1.name).1=0 then .error 80 else if (y.1.args.length:Int)≠(wants bk y.1.name).1 then .error 111 else argT bk own y.1 (wants bk y.1.name).2)) (hd:BkD bk) (ho:∀ k,own=some k->k < bk.ds.length) :
  F51.n53 W QR QN QE QP (.ptr b 0) (I i) (I (ownI own)) (.ptr vr 0) h:=by
 simp only [F51.n53,pFld_ptr,lLd_f,k.or_,ldk_mk,zG,encRA,zA,zB,cellK_some]
 have har:=arityT_le y.1.name
 have rest:∀ x:Int,((x=-1/\dfnOf bk.ds y.1.name=none)\/∃ (j:Nat) (d:Dfn),x=j/\bk.ds[j]?=some d/\dfnOf bk.ds y.1.name=some d)->F51.n52 W QR QN QE QP (.ptr b 0) (I i) (I (ownI own)) (.ptr vr 0) (I x) h:=fun x hx=>by
  simp only [F51.n52,pFld_ptr,lLd_f,k.or_,ldk_mk,zG,encRA,zA,zB,cellK_some]
  refine ⟨fun _=>False,fun _ h=>h.elim,refArity_ok ?_⟩
  simp only [F51.n51,pBin_eql]
  by_cases k0:arityT y.1.name=0
  ·have k0':(arityT y.1.name==0)=true:=by simp [k0]
   simp only [k0',F51.n50,aIf_b,zD,zF,zC,zI,F51.n49,pBin_lss]
   rcases hx with ⟨rfl,hn⟩ | ⟨j,d,rfl,hj,hdd⟩
   ·have hw:(wants bk y.1.name).1=0:=by unfold wants;rw [hn];exact k0
    rw [zX hw] at k
    have e:(-1:Int) < 0:=by omega
    simp only [zL e,F51.n48,aIg_b,zT,zF,zD,zC,zI,zH,F51.n47,pPick_b,zV,F51.n46,aIf_b,F51.n45]
    exact k.bad rfl
   ·have e:¬ (j:Int) < 0:=by omega
    obtain ⟨x,hyj,hpx⟩:=k.rb.d.at_ hj
    have hmem:=zP hj
    have hdk:=hd d hmem
    have hdb:=k.bf.i.ok.ds d hmem
    simp only [zK e,F51.n48,aIg_b,zT,zE,zD,zC,zI,pNil_ptr,pFld_ptr,lLd_f,k.rb.b,ldk_mk,zG,zA,zB,cellK_some]
    refine rng_fld (k:=6) k.rb.d.t.toR encD_len hyj (by omega) rfl fun _=>?_
    simp only [F51.n47,pPick_b,zE,if_false,F51.n46]
    cases hw:d.whole with
    | false=>
     have hww:(wants bk y.1.name).1=0:=by unfold wants;rw [hdd];simp only [hw,zE,if_false];exact k0
     rw [zX hww] at k
     simp only [zT,aIf_b,zD,zF,zC,zI,F51.n45]
     exact k.bad rfl
    | true=>
     have hww:wants bk y.1.name=((d.params.length:Int),d.depth):=by unfold wants;rw [hdd];simp only [hw,zV]
     have hne:¬ ((d.params.length:Int)=0):=fun e=>hdk.2 (List.length_eq_zero_iff.1 (by omega))
     rw [hww] at k
     simp only at k
     rw [zW hne] at k
     simp only [zS,aIf_b,zE,zD,zC,zH,F51.n44,pNil_ptr,pFld_ptr,lLd_f,k.rb.b,ldk_mk,zG,zA,zB,cellK_some]
     refine rng_fld (k:=1) k.rb.d.t.toR encD_len hyj (by omega) rfl fun _=>?_
     simp only [hpx.toR.len.1,hpx.toR.len.2,zH]
     refine rng_fld (k:=4) k.rb.d.t.toR encD_len hyj (by omega) rfl fun _=>?_
     exact F51_len (dp:=d.depth) k hd ho (by omega)
  ·have k0':(arityT y.1.name==0)=false:=by simpa using k0
   have hn:dfnOf bk.ds y.1.name=none:=by
    cases hdd:dfnOf bk.ds y.1.name with
    | none=>rfl
    | some d=>
     obtain ⟨j,g1,g2⟩:=dfnOf_at hdd
     have:=(k.bf.a d (zP g1)).1
     rw [g2] at this;exact absurd this k0
   have hw:wants bk y.1.name=(arityT y.1.name,0):=by unfold wants;rw [hn]
   rw [hw] at k
   simp only at k
   rw [zW k0] at k
   simp only [k0',F51.n50,aIf_b,zE,zD,zC,zH]
   exact F51_len k hd ho (by omega)
 refine ⟨fun _=>False,fun _ h=>h.elim,knownR_ok k.rb.b rfl k.rb.d k.ln.2.2 ?_ ?_⟩
 ·intro hn
  exact rest (-1) (.inl ⟨rfl,hn⟩)
 ·intro j d hj hdd
  exact rest j (.inr ⟨j,d,rfl,hj,hdd⟩)
theorem F51_own (k:DE W QR h n0 b i vr xr bk pl er xq xb xd yl rs y (useP bk own y.1)) (hd:BkD bk) (ho:∀ k,own=some k->k < bk.ds.length) :
  F51.n58 W QR QN QE QP (.ptr b 0) (I i) (I (ownI own)) (.ptr vr 0) h:=by
 have ue:useP bk own y.1=if loopB bk own y.1.name then .error 114 else if (wants bk y.1.name).1=0 then .error 80 else if (y.1.args.length:Int)≠(wants bk y.1.name).1 then .error 111 else argT bk own y.1 (wants bk y.1.name).2:=rfl
 rw [ue] at k
 cases own with
 | none=>
  have e:decide ((-1:Int)>=0)=false:=rfl
  have hl:¬ loopB bk none y.1.name=true:=by unfold loopB ownD;simp
  rw [zW hl] at k
  show F51.n58 W QR QN QE QP (.ptr b 0) (I i) (I (-1)) (.ptr vr 0) h
  simp only [F51.n58,pBin_geq,e,F51.n57,aIg_b,zS,zE,zD,zC,zH,F51.n56,pPick_b,if_false,F51.n55,aIf_b]
  exact F51_name (own:=none) k hd ho
 | some j=>
  have e:(j:Int)>=0:=by omega
  have hltj:=ho j rfl
  have hdj:bk.ds[j]?=some bk.ds[j]:=zJ hltj
  have hlb:loopB bk (some j) y.1.name=decide (y.1.name=bk.ds[j].name):=by unfold loopB ownD;simp only [Option.bind_some,hdj]
  generalize bk.ds[j]=d at *
  obtain ⟨x,hyj,hpx⟩:=k.rb.d.at_ hdj
  show F51.n58 W QR QN QE QP (.ptr b 0) (I i) (I (j:Int)) (.ptr vr 0) h
  simp only [F51.n58,pBin_geq,zL e,F51.n57,aIg_b,zS,zD,zF,zC,zI,pNil_ptr,pFld_ptr,lLd_f,k.rb.b,ldk_mk,zG,zA,zB,cellK_some]
  refine rng_fld (k:=0) k.rb.d.t.toR encD_len hyj (by omega) rfl fun _=>?_
  simp only [pFld_ptr,lLd_f,k.or_,ldk_mk,zG,encRA,zA,zB,cellK_some,pBin_seql]
  by_cases e1:d.name=y.1.name
  ·rw [hlb,zL e1.symm,zX rfl] at k
   simp only [zL e1,F51.n56,pPick_b,zV,F51.n55,aIf_b,zD,zF,zC,zI,F51.n54]
   exact k.bad rfl
  ·rw [hlb,zK (fun h=>e1 h.symm),zW (by decide)] at k
   simp only [zK e1,F51.n56,pPick_b,zV,F51.n55,aIf_b,zE,zD,zC,zH]
   exact F51_name (own:=some j) k hd ho
end
section
variable {h:AH} {M:Nat->Prop} {R:AE->AH->Prop} {n0 b i:Nat} {xr:AV} {bk:Bk} {pl er:Int} {xq xb xd:AV} {yl:List (Dfn×AV)} {rs:List (Row×AV)} {y:Row×AV} {own:Option Nat}
theorem used_ok (rb:RB n0 h b xr bk pl er xq xb xd yl) (rt:RT h xr rs) (hy:rs[i]?=some y) (bf:BkF bk) (ln:bk.qs.length<=64/\bk.bs.length<=64/\bk.ds.length<=100000000) (hd:BkD bk) (ho:∀ k,own=some k->k < bk.ds.length) (hM:∀ id,TW TB n0 h id->M id)
  (he:∀ e h',useP bk own y.1=.error e->BE h' b y.1.place e->Fr h h' (TW TB n0 h)->R (.ret (B false)) h')
  (hk:∀ bk' xq' xb' xd' yl' h',useP bk own y.1=.ok bk'->RB n0 h' b xr bk' pl er xq' xb' xd' yl'->Fr h h' (TW TB n0 h)->R (.ret (B true)) h'):ACalls Try.prog 51 [.ptr b 0,I i,I (ownI own)] h M R:=by
 apply F51.callsN
 simp only [F51.n60,F51.n59,pNil_ptr,pFld_ptr,lLd_f,rb.b,ldk_mk,zG,zA,cellK_some]
 refine rng_var rt.r encRA_len (rt.one hy) hy rfl rfl (fun id hid=>.inr hid) fun vr h1 f1 _ or1=>?_
 refine F51_own ⟨rb.fr0 f1,rt.fr0 f1,hy,or1,fun id hid=>hid.elim (fun hid=>(TW.back (TW.of_fr f1) hid).elim (fun h=>.inl (hM id h)) .inr) (fun hid=>.inr (zR f1.next hid)),bf,ln,?_,?_⟩ hd ho
 ·intro e h' h2 h3 f2
  simpa using he e h' h2 h3 (TW.trans (TW.of_fr f1) f2)
 ·intro bk' xq' xb' xd' yl' h' h2 h3 f2
  simpa using hk bk' xq' xb' xd' yl' h' h2 h3 (TW.trans (TW.of_fr f1) f2)
end
end Go.Proofs.Ytjehibknlmehmaa
namespace Go.Proofs.Ytjehibknlmehmaa
open Go.Ab
attribute [-simp] eAlloc_d eStore_f
section
variable {W:Nat->Prop} {QR QN:VK} {QE:Nat->VK} {QP:AV->AH->Prop} {h:AH} {n0 b i vr:Nat} {xr:AV} {bk:Bk} {pl er:Int} {xq xb xd:AV} {yl:List (Dfn×AV)} {rs:List (Row×AV)} {y:Row×AV} {res:Er Bk} {own:Option Nat} {dp:Int}
theorem DE.same (k:DE W QR h n0 b i vr xr bk pl er xq xb xd yl rs y (.ok bk)):QR [B true] h:=k.hk bk xq xb xd yl h rfl k.rb (TW.of_fr Fr.refl)
theorem F30_rep (k:DE W QR h n0 b i vr xr bk pl er xq xb xd yl rs y (if y.1.num < 0 then .error 112 else .ok bk)):F30.n5 W QR QN QE QP (.ptr b 0) (I i) (.ptr vr 0) h:=by
 simp only [F30.n5,pFld_ptr,lLd_f,k.or_,ldk_mk,zG,encRA,zA,zB,cellK_some,pBin_lss]
 by_cases k1:y.1.num < 0
 ·rw [zX k1] at k
  simp only [zL k1,F30.n4,aIf_b,zD,zF,zC,zI,F30.n3]
  exact k.bad rfl
 ·rw [zW k1] at k
  simp only [zK k1,F30.n4,aIf_b,zE,zD,zC,zH,F30.n1]
  exact k.same
theorem F30_if (k:DE W QR h n0 b i vr xr bk pl er xq xb xd yl rs y (ifP bk y.1)):F30.n16 W QR QN QE QP (.ptr b 0) (I i) (.ptr vr 0) h:=by
 simp only [F30.n16,pNil_ptr,pFld_ptr,lLd_f,k.rb.b,k.or_,ldk_mk,zG,encRA,zA,zB,cellK_some]
 refine ⟨fun _=>False,fun _ h=>h.elim,find_ok k.rb.s.toR (by have:=k.ln.2.1;omega) ?_ ?_⟩
 ·intro hr
  have e:(-1:Int) < 0:=by omega
  simp only [F30.n15,pBin_lss,zL e,F30.n14,aIf_b,zD,zF,zC,zI,F30.n13]
  exact k.bad (by unfold ifP;rw [hr])
 ·intro j g hj hr
  have e:¬ (j:Int) < 0:=by omega
  have ei:ifP bk y.1=if y.1.num < 0\/(g.size < 63/\2 ^ g.size.toNat<=y.1.num) then .error 112 else .ok bk:=by unfold ifP;rw [hr]
  rw [ei] at k
  have hg:=k.bf.i.ok.sb g (zP hj)
  simp only [F30.n15,pBin_lss,zK e,F30.n14,aIf_b,zE,zD,zC,zH,F30.n12,pFld_ptr,lLd_f,k.or_,ldk_mk,zG,encRA,zA,zB,cellK_some]
  by_cases k1:y.1.num < 0
  ·rw [zX (.inl k1)] at k
   simp only [zL k1,F30.n11,aIg_b,zT,zS,zF,zE,zD,zC,zI,zH,F30.n10]
   have fin:∀ t,F30.n9 W QR QN QE QP (.ptr b 0) (I i) (B true) t noA h:=fun t=>by
    simp only [F30.n9,aIg_b,zT,zF,zD,zC,zI,zH,zE,F30.n8,pPick_b,zV,F30.n7,aIf_b,F30.n6]
    exact k.bad rfl
   exact fin noA
  ·simp only [zK k1,F30.n11,aIg_b,zT,zE,zD,zC,zI,pNil_ptr,pFld_ptr,lLd_f,k.rb.b,ldk_mk,zG,zA,zB,cellK_some]
   refine rng_fld (k:=2) k.rb.s.toR encRg_len hj (by omega) rfl fun _=>?_
   simp only [pBin_lss]
   by_cases k2:g.size < 63
   ·have hp:IntKind.i64.wrap (1 * 2 ^ (min g.size.toNat IntKind.i64.bits))=2 ^ g.size.toNat:=by
     have e:IntKind.i64.bits=64:=rfl
     rw [e,Nat.min_eq_left (by omega),Int.one_mul]
     have h1:(2:Int) ^ g.size.toNat=((2 ^ g.size.toNat:Nat):Int):=by simp
     have h2:2 ^ g.size.toNat<=2 ^ 62:=Nat.pow_le_pow_right (by decide) (by omega)
     have hP:∀ P:Nat,P<=2 ^ 62->IntKind.i64.wrap (P:Int)=P:=fun P h=>wrap_in (by omega) (by omega)
     rw [h1]
     exact hP _ h2
    have k0:0<=g.size:=by omega
    simp only [zL k2,F30.n10,aIg_b,zS,zD,zF,zC,zI,pFld_ptr,lLd_f,k.or_,k.rb.b,pNil_ptr,ldk_mk,zG,encRA,zA,zB,cellK_some]
    refine rng_fld (k:=2) k.rb.s.toR encRg_len hj (by omega) rfl fun _=>?_
    simp only [pBin_shl,k0,zH,hp,pBin_geq,ge_iff_le]
    by_cases k3:2 ^ g.size.toNat<=y.1.num
    ·rw [zX (.inr ⟨k2,k3⟩)] at k
     simp only [zL k3,F30.n9,aIg_b,zT,zE,zD,zC,zI,pPick_b,zV,F30.n8,if_false,F30.n7,aIf_b,zF,F30.n6]
     exact k.bad rfl
    ·rw [zW (fun h=>h.elim k1 (fun h=>k3 h.2))] at k
     simp only [zK k3,F30.n9,aIg_b,zT,zE,zD,zC,zI,zH,pPick_b,zV,F30.n8,if_false,F30.n7,aIf_b,zF,F30.n1]
     exact k.same
   ·rw [zW (fun h=>h.elim k1 (fun h=>k2 h.1))] at k
    simp only [zK k2,F30.n10,aIg_b,zS,zE,zD,zC,zH,F30.n9,zT,zI,pPick_b,if_false,F30.n8,F30.n7,aIf_b,F30.n1]
    exact k.same
theorem F30_reset (k:DE W QR h n0 b i vr xr bk pl er xq xb xd yl rs y (resetP bk y.1.args)):F30.n28 W QR QN QE QP (.ptr b 0) (I i) (.ptr vr 0) h:=by
 obtain ⟨ha,hl⟩:=k.rt.a y (zP k.hy)
 have hk:=k
 simp only [F30.n28,pFld_ptr,lLd_f,k.or_,ldk_mk,zG,encRA,zA,zB,cellK_some,ha.len.1,ha.len.2,zH,pBin_neq,int_bne]
 match hargs:y.1.args with
 | []=>
  rw [hargs] at hk
  have h1:¬ ((([]:List Arg).length:Nat):Int)=1:=by simp
  simp only [zK h1,zT,F30.n27,aIf_b,zD,zF,zC,zI,F30.n26]
  exact hk.bad rfl
 | a::c::l=>
  rw [hargs] at hk
  have h1:¬ (((a::c::l).length:Nat):Int)=1:=by simp only [List.length_cons];omega
  simp only [zK h1,zT,F30.n27,aIf_b,zD,zF,zC,zI,F30.n26]
  exact hk.bad rfl
 | [a]=>
  rw [hargs] at hk ha
  have h1:(([a].length:Nat):Int)=1:=rfl
  simp only [zL h1,zS,F30.n27,aIf_b,zE,zD,zC,zH,F30.n25,pFld_ptr,lLd_f,k.or_,ldk_mk,zG,encRA,zA,zB,cellK_some]
  refine rng_at (i:=0) ha Arg.enc_len rfl fun _=>?_
  simp only [pNil_ptr,pFld_ptr,lLd_f,k.rb.b,ldk_mk,zG,zA,zB,cellK_some]
  refine ⟨TW TB n0 h,fun id hs _=>k.hW id (.inl hs),arg_ok k.rb.bn k.rt k.hy k.rb.q.toR (by have:=k.ln.1;omega) (fun _ h=>h) ?_ ?_⟩
  ·intro h3 h0 be f3
   exact hk.he _ h3 (by simp only [resetP,errP];rw [zX h0]) be f3
  ·intro h3 h0 f3
   exact hk.hk bk xq xb xd yl h3 (by simp only [resetP,errP];rw [zW (by simpa using h0)]) (k.rb.fr0 f3) (TW.of_fr f3)
theorem F30_meas (k:DE W QR h n0 b i vr xr bk pl er xq xb xd yl rs y (measP bk y.1.args)):F30.n24 W QR QN QE QP (.ptr b 0) (I i) (.ptr vr 0) h:=by
 obtain ⟨ha,hl⟩:=k.rt.a y (zP k.hy)
 have hk:=k
 simp only [F30.n24,pFld_ptr,lLd_f,k.or_,ldk_mk,zG,encRA,zA,zB,cellK_some,ha.len.1,ha.len.2,zH,pBin_neq,int_bne]
 by_cases hlen:y.1.args.length=2
 ·match hargs:y.1.args,hlen with
  | [a,c],_=>
   rw [hargs] at hk ha
   have h1:(([a,c].length:Nat):Int)=2:=rfl
   simp only [zL h1,zS,F30.n23,aIf_b,zE,zD,zC,zH,F30.n21,pFld_ptr,lLd_f,k.or_,ldk_mk,zG,encRA,zA,zB,cellK_some]
   refine rng_at (i:=0) ha Arg.enc_len rfl fun _=>?_
   simp only [pNil_ptr,pFld_ptr,lLd_f,k.rb.b,ldk_mk,zG,zA,zB,cellK_some]
   refine ⟨TW TB n0 h,fun id hs _=>k.hW id (.inl hs),arg_ok k.rb.bn k.rt k.hy k.rb.q.toR (by have:=k.ln.1;omega) (fun _ h=>h) ?_ ?_⟩
   ·intro h3 h0 be f3
    simp only [F30.n20,aIg_b,zS,zE,zD,zC,zH,F30.n19,pPick_b,if_false,F30.n18]
    exact hk.he _ h3 (by simp only [measP];rw [zX h0]) be f3
   ·intro h3 h0 f3
    have k3:=k.fr0 f3
    simp only [F30.n20,aIg_b,zS,zD,zF,zC,zI,pFld_ptr,lLd_f,k3.or_,ldk_mk,zG,encRA,zA,zB,cellK_some]
    refine rng_at (i:=1) (ha.fr0 f3) Arg.enc_len rfl fun _=>?_
    simp only [pNil_ptr,pFld_ptr,lLd_f,k3.rb.b,ldk_mk,zG,zA,zB,cellK_some]
    refine ⟨TW TB n0 h3,fun id hs _=>k3.hW id (.inl hs),arg_ok k3.rb.bn k3.rt k.hy k3.rb.s.toR (by have:=k.ln.2.1;omega) (fun _ h=>h) ?_ ?_⟩
    ·intro h4 h0' be f4
     simp only [F30.n19,pPick_b,zV,F30.n18]
     exact hk.he _ h4 (by simp only [measP];rw [zW (by simpa using h0)];unfold errP;rw [zX h0']) be (TW.trans (TW.of_fr f3) f4)
    ·intro h4 h0' f4
     simp only [F30.n19,pPick_b,zV,F30.n18]
     exact hk.hk bk xq xb xd yl h4 (by simp only [measP];rw [zW (by simpa using h0)];unfold errP;rw [zW (by simpa using h0')]) (k3.rb.fr0 f4) (TW.of_fr (f3.tr0 f4))
 ·have h1:¬ ((y.1.args.length:Nat):Int)=2:=by omega
  simp only [zK h1,zT,F30.n23,aIf_b,zD,zF,zC,zI,F30.n22]
  refine k.bad ?_
  unfold measP
  split
  ·rename_i hh;rw [hh] at hlen;exact absurd rfl hlen
  ·rfl
theorem rowP_decl {i:Int} (hk:y.1.kind=sQubits\/y.1.kind=sBits\/y.1.kind=sGate):rowP bk own i y.1=rowP bk none i y.1:=by
 unfold rowP
 have n2:sBits≠sQubits:=by decide
 have n3:sGate≠sQubits:=by decide
 have n4:sGate≠sBits:=by decide
 rcases hk with hk | hk | hk
 ·rw [hk,zX rfl,zX rfl]
 ·rw [hk,zW n2,zW n2,zX rfl,zX rfl]
 ·rw [hk,zW n3,zW n3,zW n4,zW n4,zX rfl,zX rfl]
theorem F30_all (k:DE W QR h n0 b i vr xr bk pl er xq xb xd yl rs y (rowP bk own i y.1)) (hd:BkD bk) (ho:∀ k,own=some k->k < bk.ds.length) (hrr:0<=y.1.rows/\y.1.rows<=1000000000):F30.n44 W QR QN QE QP (.ptr b 0) (I i) (I (ownI own)) (.ptr vr 0) h:=by
 have decl:y.1.kind=sQubits\/y.1.kind=sBits\/y.1.kind=sGate->F30.n2 W QR QN QE QP (.ptr b 0) (I i) h:=fun hk=>by
  rw [rowP_decl hk] at k
  exact ⟨TW TB n0 h,fun id hs _=>k.hW id (.inl hs),declared_ok k.rb k.rt k.hy k.bf k.ln hk hrr (fun _ h=>h) k.he k.hk⟩
 have e1:(⟨#[113,117,98,105,116,115]⟩:ByteArray)=sQubits:=rfl
 have e2:(⟨#[98,105,116,115]⟩:ByteArray)=sBits:=rfl
 have e3:(⟨#[103,97,116,101]⟩:ByteArray)=sGate:=rfl
 have e4:(⟨#[114,101,112,101,97,116]⟩:ByteArray)=sRepeat:=rfl
 have e5:(⟨#[105,102]⟩:ByteArray)=sIf:=rfl
 have e6:(⟨#[117,115,101]⟩:ByteArray)=sUse:=rfl
 have e7:(⟨#[109,101,97,115,117,114,101]⟩:ByteArray)=sMeasure:=rfl
 have e8:(⟨#[114,101,115,101,116]⟩:ByteArray)=sReset:=rfl
 simp only [F30.n44,pFld_ptr,lLd_f,k.or_,ldk_mk,zG,encRA,zA,zB,cellK_some,F30.n43,pBin_seql,e1]
 by_cases k1:y.1.kind=sQubits
 ·simp only [zL k1,F30.n42,aIf_b,zD,zF,zC,zI,F30.n39]
  exact decl (.inl k1)
 simp only [zK k1,F30.n42,aIf_b,zE,zD,zC,zH,F30.n41,pBin_seql,e2]
 by_cases k2:y.1.kind=sBits
 ·simp only [zL k2,F30.n40,aIf_b,zD,zF,zC,zI,F30.n39]
  exact decl (.inr (.inl k2))
 simp only [zK k2,F30.n40,aIf_b,zE,zD,zC,zH,pBin_seql,e3]
 by_cases k3:y.1.kind=sGate
 ·simp only [zL k3,F30.n39,aIf_b,zD,zF,zC,zI]
  exact decl (.inr (.inr k3))
 clear decl
 unfold rowP at k
 rw [zW k1,zW k2,zW k3] at k
 simp only [zK k3,F30.n39,aIf_b,zE,zD,zC,zH,F30.n38,pBin_seql,e4]
 by_cases k4:y.1.kind=sRepeat
 ·rw [zX k4] at k
  simp only [zL k4,F30.n37,aIf_b,zD,zF,zC,zI]
  exact F30_rep k
 rw [zW k4] at k
 simp only [zK k4,F30.n37,aIf_b,zE,zD,zC,zH,F30.n36,pBin_seql,e5]
 by_cases k5:y.1.kind=sIf
 ·rw [zX k5] at k
  simp only [zL k5,F30.n35,aIf_b,zD,zF,zC,zI]
  exact F30_if k
 rw [zW k5] at k
 simp only [zK k5,F30.n35,aIf_b,zE,zD,zC,zH,F30.n34,pBin_seql,e6]
 by_cases k6:y.1.kind=sUse
 ·rw [zX k6] at k
  simp only [zL k6,F30.n33,aIf_b,zD,zF,zC,zI,F30.n17]
  exact ⟨TW TB n0 h,fun id hs _=>k.hW id (.inl hs),used_ok k.rb k.rt k.hy k.bf k.ln hd ho (fun _ h=>h) k.he k.hk⟩
 rw [zW k6] at k
 simp only [zK k6,F30.n33,aIf_b,zE,zD,zC,zH,F30.n32,pBin_seql,e7]
 by_cases k7:y.1.kind=sMeasure
 ·rw [zX k7] at k
  simp only [zL k7,F30.n31,aIf_b,zD,zF,zC,zI]
  exact F30_meas k
 rw [zW k7] at k
 simp only [zK k7,F30.n31,aIf_b,zE,zD,zC,zH,F30.n30,pBin_seql,e8]
 by_cases k8:y.1.kind=sReset
 ·rw [zX k8] at k
  simp only [zL k8,F30.n29,aIf_b,zD,zF,zC,zI]
  exact F30_reset k
 rw [zW k8] at k
 simp only [zK k8,F30.n29,aIf_b,zE,zD,zC,zH,F30.n1]
 exact k.same
end
section
variable {h:AH} {M:Nat->Prop} {R:AE->AH->Prop} {n0 b i:Nat} {xr:AV} {bk:Bk} {pl er:Int} {xq xb xd:AV} {yl:List (Dfn×AV)} {rs:List (Row×AV)} {y:Row×AV} {own:Option Nat}
theorem rowR_ok (rb:RB n0 h b xr bk pl er xq xb xd yl) (rt:RT h xr rs) (hy:rs[i]?=some y) (bf:BkF bk) (ln:bk.qs.length<=64/\bk.bs.length<=64/\bk.ds.length<=100000000) (hd:BkD bk) (ho:∀ k,own=some k->k < bk.ds.length) (hrr:0<=y.1.rows/\y.1.rows<=1000000000) (hM:∀ id,TW TB n0 h id->M id)
  (he:∀ e h',rowP bk own i y.1=.error e->BE h' b y.1.place e->Fr h h' (TW TB n0 h)->R (.ret (B false)) h')
  (hk:∀ bk' xq' xb' xd' yl' h',rowP bk own i y.1=.ok bk'->RB n0 h' b xr bk' pl er xq' xb' xd' yl'->Fr h h' (TW TB n0 h)->R (.ret (B true)) h'):ACalls Try.prog 30 [.ptr b 0,I i,I (ownI own)] h M R:=by
 apply F30.callsN
 simp only [F30.n46,F30.n45,pNil_ptr,pFld_ptr,lLd_f,rb.b,ldk_mk,zG,zA,cellK_some]
 refine rng_var rt.r encRA_len (rt.one hy) hy rfl rfl (fun id hid=>.inr hid) fun vr h1 f1 _ or1=>?_
 refine F30_all ⟨rb.fr0 f1,rt.fr0 f1,hy,or1,fun id hid=>hid.elim (fun hid=>(TW.back (TW.of_fr f1) hid).elim (fun h=>.inl (hM id h)) .inr) (fun hid=>.inr (zR f1.next hid)),bf,ln,?_,?_⟩ hd ho hrr
 ·intro e h' h2 h3 f2
  simpa using he e h' h2 h3 (TW.trans (TW.of_fr f1) f2)
 ·intro bk' xq' xb' xd' yl' h' h2 h3 f2
  simpa using hk bk' xq' xb' xd' yl' h' h2 h3 (TW.trans (TW.of_fr f1) f2)
end
end Go.Proofs.Ytjehibknlmehmaa
namespace Go.Proofs.Ytjehibknlmehmaa
open Go.Ab
attribute [-simp] eAlloc_d eStore_f
section
variable {b:Nat} {xr xd:AV} {bk:Bk} {yl:List (Dfn×AV)} {rs:List (Row×AV)}
structure CtR (h:AH) (b:Nat) (xr xd:AV) (rs:List (Row×AV)) (ds:List Dfn) (yl:List (Dfn×AV)):Prop where
 p:∃ cs,h.obj b=some (mkO cs 9 54)/\cs[0]?=some xr/\cs[3]?=some xd
 r:RT h xr rs
 d:DT h xd ds yl
theorem CtR.fr0 {h h':AH} {ds:List Dfn} (a:CtR h b xr xd rs ds yl) (f:Fr h h' fun _=>False):CtR h' b xr xd rs ds yl:=by
 obtain ⟨cs,h1,h2⟩:=a.p
 exact ⟨⟨cs,f.ob0 h1,h2⟩,a.r.fr0 f,a.d.fr0 f⟩
theorem countR_ok {ds:List Dfn} (hd:∀ d∈ds,0<=d.ops/\d.ops<=4097) (har:∀ d∈ds,arityT d.name=0) (hlen2:ds.length<=100000000) (n:Nat):∀ {h:AH} {M:Nat->Prop} {R:AE->AH->Prop} {a:Nat} (_:CtR h b xr xd rs ds yl) (_:a+n<=rs.length) (_:Seg (sg rs a n))
  (_:∀ h',Fr h h' (fun _=>False)->R (.ret (I (countP ds (sg rs a n) 0))) h'),ACalls Try.prog 31 [.ptr b 0,I a,I (a+n)] h M R:=by
 induction n using Nat.strongRecOn with
 | ind n ih=>
 intro h M R a hc hn hs hR
 apply F31.callsN
 unfold F31.n23 F31.n22 F31.n21 F31.n20
 have hlen:=hc.r.n
 refine vLoop_of (ι:=Nat×Int) (fun i v h'=>v=[.ptr b 0,I (a+n),I i.2,I (a+(n - i.1:Nat):Int)]/\i.1<=n/\(0<=i.2/\i.2<=4097)/\Seg (sg rs (a+(n - i.1)) i.1)/\countP ds (sg rs (a+(n - i.1)) i.1) i.2=countP ds (sg rs a n) 0/\Fr h h' (fun _=>False)) (fun i=>i.1) (n,0) ⟨by simp,zU _,by omega,by simpa using hs,by simp,Fr.refl⟩ ?_
 rintro K ⟨m,acc⟩ v h1 ⟨rfl,hm,hacc,hsg,heq,f1⟩ step
 simp only at hm hacc hsg heq
 have hc1:=hc.fr0 f1
 unfold F31.g1_
 simp only [zN,zO,F31.n19,pBin_lss]
 cases m with
 | zero=>
  have e1:decide ((a:Int)+(n - 0:Nat) < a+n)=false:=by simp
  rw [sg_0,countP_nil] at heq
  simp only [e1,F31.n18,aIf_b,zE,zD,zC,zH,zV,F31.n1,zN]
  rw [heq]
  simpa using hR h1 f1
 | succ m=>
  obtain ⟨j,hj⟩:∃ j,j=a+(n - (m+1)):=⟨_,rfl⟩
  have ej:(a:Int)+(n - (m+1):Nat)=(j:Int):=by omega
  have e1:decide ((j:Int) < a+n)=true:=by simp;omega
  rw [<-hj] at hsg heq
  obtain ⟨y,hy⟩:∃ y,rs[j]?=some y:=⟨rs[j]'(by omega),zJ _⟩
  rw [sg_s hy] at hsg heq
  rw [countP_cons] at heq
  obtain ⟨⟨b0,b1⟩,b2,b3,b4⟩:=hsg.inv
  rw [sg_len (by omega)] at b1
  obtain ⟨k,hk⟩:∃ k:Nat,y.1.rows=k:=⟨y.1.rows.toNat,by omega⟩
  have hkm:k<=m:=by omega
  rw [hk,zY,sg_take hkm] at b3
  rw [hk,zY,sg_drop] at b4
  rw [hk,zY,sg_take hkm,sg_drop] at heq
  obtain ⟨cs,hp,c0,c3⟩:=hc1.p
  simp only [e1,ej,F31.n18,aIf_b,zD,zF,zC,zI,F31.n17,pNil_ptr,pFld_ptr,lLd_f,hp,ldk_mk,zG,c0,cellK_some]
  refine rng_var hc1.r.r encRA_len (hc1.r.one hy) hy rfl rfl (fun id hid=>.inr (zR f1.next hid)) fun vr h2 f2 _ or_=>?_
  have f02:=f1.tr0 f2
  have hc2:=hc1.fr0 f2
  have hcb:=countP_bd hd b3 0 (by omega)
  have hkb:=countK_bd (ds:=ds) (r:=y.1) (c:=countP ds (sg rs (j+1) k) 0) hd hcb b2
  have w1:∀ x:Int,0<=x/\x<=1000000000->IntKind.i64.wrap x=x:=fun x hx=>wrap_in (by omega) (by omega)
  have em2:∀ x:Int,(if (4097:Int) < x then 4097 else x)=min x 4097:=fun x=>by split <;> omega
  have last:∀ (kr:Int) h3,min (acc+kr) 4097=min (acc+countK ds y.1 (countP ds (sg rs (j+1) k) 0)) 4097->0<=kr/\kr<=16785409->Fr h h3 (fun _=>False)->F31.n3 (fun id=>M id\/h.next<=id) (retV Try.prog [.tmp 6] R) K (fun (i:Nat) (vs:List AV) (h:AH)=>if i=0 then F31.n1 (fun id=>M id\/h.next<=id) (retV Try.prog [.tmp 6] R) (retV Try.prog [.tmp 6] R) (fun _ _ _=>False) (fun v h=>R (.pan v) h) (vs.getD 0 noA) h else False) (fun v h=>R (.pan v) h) (.ptr b 0) (I (a+n)) (I acc) (I j) (I kr) h3:=fun kr h3 hkr hkr2 f3=>by
   obtain ⟨cs3,hp3,c30,c33⟩:=(hc.fr0 f3).p
   simp only [F31.n3,pBin_add,w1 (acc+kr) (by omega),pMM,zH,zV,em2,F31.n2,pNil_ptr,pFld_ptr,lLd_f,hp3,ldk_mk,zG,c30,cellK_some]
   refine rng_fld (k:=4) (hc.fr0 f3).r.r encRA_len hy (by omega) rfl fun _=>?_
   rw [hk,hkr]
   simp only [pBin_add,w1 (1+(k:Int)) (by omega),w1 ((j:Int)+(1+k)) (by omega)]
   refine step (m - k,min (acc+countK ds y.1 (countP ds (sg rs (j+1) k) 0)) 4097) _ h3 (by simp only;omega) ⟨?_,by simp only;omega,?_,?_,?_,f3⟩
   ·have e9:(j:Int)+(1+k)=a+(n - (m - k):Nat):=by omega
    rw [<-e9]
   ·simp only;omega
   ·have e8:j+1+k=a+(n - (m - k)):=by omega
    rw [e8] at b4;exact b4
   ·have e8:j+1+k=a+(n - (m - k)):=by omega
    rw [e8] at heq
    exact heq
  have e4:(⟨#[114,101,112,101,97,116]⟩:ByteArray)=sRepeat:=rfl
  simp only [F31.n16,F31.n15,pFld_ptr,lLd_f,or_,ldk_mk,zG,encRA,zA,zB,cellK_some,pBin_seql,e4]
  by_cases k1:y.1.kind=sRepeat
  ·have hnum:=b2 k1
   simp only [zL k1,F31.n14,aIf_b,zD,zF,zC,zI,F31.n8,pBin_add,pFld_ptr,lLd_f,or_,ldk_mk,zG,encRA,zA,zB,cellK_some,hk,w1 ((j:Int)+1) (by omega),w1 ((j:Int)+1+k) (by omega)]
   refine ⟨fun _=>False,fun _ h=>h.elim,ih k (by omega) (a:=j+1) hc2 (by omega) b3 fun h3 f3=>?_⟩
   have or3:=f3.ob0 or_
   have ec:countK ds y.1 (countP ds (sg rs (j+1) k) 0)=if 0 < countP ds (sg rs (j+1) k) 0 then min y.1.num 4097 * countP ds (sg rs (j+1) k) 0 else countP ds (sg rs (j+1) k) 0:=by unfold countK;rw [zX k1]
   have hmm:=mul_bd (a:=min y.1.num 4097) (b:=countP ds (sg rs (j+1) k) 0) (by omega) (by omega) hcb.1 hcb.2
   rw [ec] at last
   have l3:=fun kr hkr hb=>last kr h3 hkr hb (f02.tr0 f3)
   have mulc:=Int.mul_comm (countP ds (sg rs (j+1) k) 0) (min y.1.num 4097)
   generalize hcc:countP ds (sg rs (j+1) k) 0=c at *
   have tail:(0 < c->¬ 4096 < y.1.num)->F31.n4 (fun id=>M id\/h.next<=id) (retV Try.prog [.tmp 6] R) K (fun (i:Nat) (vs:List AV) (h:AH)=>if i=0 then F31.n1 (fun id=>M id\/h.next<=id) (retV Try.prog [.tmp 6] R) (retV Try.prog [.tmp 6] R) (fun _ _ _=>False) (fun v h=>R (.pan v) h) (vs.getD 0 noA) h else False) (fun v h=>R (.pan v) h) (.ptr b 0) (I (a+n)) (I acc) (I j) (.ptr vr 0) (I c) (B false) h3:=fun hno=>by
    simp only [F31.n4,aIf_b,zE,zD,zC,zH,pFld_ptr,lLd_f,or3,ldk_mk,zG,encRA,zA,zB,cellK_some,pMM,zV,em2,pBin_mul,mulc,w1 (min y.1.num 4097 * c) (by omega)]
    refine l3 _ ?_ hmm
    by_cases k2:0 < c
    ·rw [zX k2]
    ·have:c=0:=by omega
     subst this
     simp
   simp only [F31.n7,pBin_gtr,gt_iff_lt]
   by_cases k2:0 < c
   ·simp only [zL k2,F31.n6,aIg_b,zS,zD,zF,zC,zI,pFld_ptr,lLd_f,or3,ldk_mk,zG,encRA,zA,zB,cellK_some,pBin_gtr,gt_iff_lt]
    by_cases k3:4096 < y.1.num
    ·simp only [zL k3,F31.n5,pPick_b,zV,F31.n4,aIf_b,zD,zF,zC,zI]
     refine l3 4097 ?_ (by omega)
     rw [zX k2,show min y.1.num 4097=4097 by omega]
     omega
    ·simp only [zK k3,F31.n5,pPick_b,zV]
     exact tail fun _=>k3
   ·simp only [zK k2,F31.n6,aIg_b,zS,zE,zD,zC,zH,F31.n5,pPick_b,if_false]
    exact tail fun h=>absurd h k2
  ·have ec:∀ c,countK ds y.1 c=match dfnOf ds y.1.name with | some d=>d.ops | none=>1:=fun c=>by unfold countK;rw [zW k1];rfl
   rw [ec] at last
   obtain ⟨cs2,hp2,c20,c23⟩:=hc2.p
   simp only [zK k1,F31.n14,aIf_b,zE,zD,zC,zH,F31.n13,pFld_ptr,lLd_f,or_,ldk_mk,zG,encRA,zA,zB,cellK_some]
   refine ⟨fun _=>False,fun _ h=>h.elim,knownR_ok hp2 c23 hc2.d hlen2 ?_ ?_⟩
   ·intro hno
    rw [hno] at last
    have e:decide ((-1:Int)>=0)=false:=rfl
    simp only [F31.n12,pBin_geq,e,F31.n11,aIg_b,zS,zE,zD,zC,zH,F31.n10,pPick_b,if_false,F31.n9,aIf_b]
    exact last 1 h2 rfl (by omega) f02
   ·intro q d hq hdd
    rw [hdd] at last
    have e:(q:Int)>=0:=by omega
    obtain ⟨g1,g2⟩:=zM.1 hq
    have hmem:=zP hq
    have hn2:d.name=y.1.name:=by have:=List.find?_some hdd;simpa using this
    have ha0:arityT y.1.name=0:=by rw [<-hn2];exact har d hmem
    obtain ⟨x,hyq,_⟩:=hc2.d.at_ hq
    have hob:=hd d hmem
    simp only [F31.n12,pBin_geq,zL e,F31.n11,aIg_b,zS,zD,zF,zC,zI,pFld_ptr,lLd_f,or_,ldk_mk,zG,encRA,zA,zB,cellK_some]
    refine ⟨fun _=>False,fun _ h=>h.elim,refArity_ok ?_⟩
    have ha0':(arityT y.1.name==0)=true:=by simp [ha0]
    simp only [pBin_eql,ha0',F31.n10,pPick_b,zV,F31.n9,aIf_b,zD,zF,zC,zI,pNil_ptr,pFld_ptr,lLd_f,hp2,ldk_mk,zG,c23,cellK_some]
    refine rng_fld (k:=5) hc2.d.t.toR encD_len hyq (by omega) rfl fun _=>?_
    exact last d.ops h2 rfl (by omega) f02
end
end Go.Proofs.Ytjehibknlmehmaa
namespace Go.Proofs.Ytjehibknlmehmaa
open Go.Ab
attribute [-simp] eAlloc_d eStore_f
theorem lens {bk:Bk} (ok:BkOK bk):bk.qs.length<=64/\bk.bs.length<=64:=by
 have key:∀ l:List Reg,(∀ r∈l,1<=r.size)->(l.length:Int)<=totalR l:=by
  intro l
  induction l with
  | nil=>intro _;simp [totalR]
  | cons r l ih=>
   intro hm
   rw [totalR_cons,List.length_cons]
   have:=ih fun r hr=>hm r (List.mem_cons_of_mem _ hr)
   have:=hm r (List.mem_cons_self ..)
   omega
 have h1:=key bk.qs fun r hr=>(ok.sq r hr).1
 have h2:=key bk.bs fun r hr=>(ok.sb r hr).1
 have h3:=ok.tq
 have h4:=ok.tb
 omega
theorem rowP_D {bk bk':Bk} {own:Option Nat} {i:Int} {r:Row} (a:BkD bk) (h:rowP bk own i r=.ok bk'):BkD bk':=by
 have same:∀ e,errP e bk=.ok bk'->BkD bk':=fun e h=>by
  unfold errP at h
  split at h <;> cases h
  exact a
 unfold rowP at h
 split at h
 ·cases hd:declP bk bk.qs 64 r with
  | error e=>rw [hd] at h;cases h
  | ok l=>rw [hd] at h;cases h;exact a
 split at h
 ·cases hd:declP bk bk.bs 64 r with
  | error e=>rw [hd] at h;cases h
  | ok l=>rw [hd] at h;cases h;exact a
 split at h
 ·unfold defP at h
  split at h
  ·cases h
  split at h
  ·cases h
  rename_i hne
  split at h
  ·cases h
  split at h
  ·cases h
  cases h
  intro d hd
  rcases List.mem_append.1 hd with hd | hd
  ·exact a d hd
  ·have:=List.mem_singleton.1 hd
   subst this
   exact ⟨by simp only;omega,fun e=>hne (by simpa using e)⟩
 split at h
 ·split at h
  ·cases h
  ·cases h;exact a
 split at h
 ·unfold ifP at h
  split at h
  ·cases h
  ·split at h
   ·cases h
   ·cases h;exact a
 split at h
 ·unfold useP at h
  split at h
  ·cases h
  split at h
  ·cases h
  split at h
  ·cases h
  split at h
  ·cases h
  split at h
  ·cases h
  split at h
  ·cases h
  rename_i hdp
  cases h
  unfold deepen
  cases own with
  | none=>exact a
  | some k=>
   simp only [Option.isSome_some,zH] at hdp
   intro d hd
   rcases mem_modify hd with h3 | ⟨e,h3,rfl⟩
   ·exact a d h3
   ·have:=a e h3
    exact ⟨by simp only;omega,this.2⟩
 split at h
 ·unfold measP at h
  split at h
  ·split at h
   ·cases h
   ·exact same _ h
  ·cases h
 split at h
 ·unfold resetP at h
  split at h
  ·exact same _ h
  ·cases h
 cases h
 exact a
theorem setWhole_D {bk:Bk} (a:BkD bk) {k:Nat} {n:Int}:BkD { bk with ds:=setWhole bk.ds k n }:=by
 intro d hd
 rcases mem_modify hd with h3 | ⟨e,h3,rfl⟩
 ·exact a d h3
 ·exact a e h3
theorem lookP_D (n:Nat):∀ {deep:Nat} {own:Option Nat} {i:Nat} {rows:List Row} {bk bk':Bk} (_:rows.length=n) (_:BkD bk) (_:lookP deep own i rows bk=.ok bk'),BkD bk':=by
 induction n using Nat.strongRecOn with
 | ind n ih=>
 intro deep own i rows bk bk' hn a h
 cases rows with
 | nil=>rw [lookP_nil] at h;cases h;exact a
 | cons r rest=>
  rw [lookP_cons] at h
  split at h
  ·cases h
  split at h
  ·cases h
  rename_i bk1 h1
  split at h
  ·cases h
  rename_i bk2 h2
  rw [List.length_cons] at hn
  have a2:=ih _ (by rw [yA];omega) rfl (rowP_D a h1) h2
  refine ih _ (by rw [List.length_drop];omega) rfl ?_ h
  split
  ·exact setWhole_D a2
  ·exact a2
section
variable {W:Nat->Prop} {QR QN:VK} {QE:Nat->VK} {QP:AV->AH->Prop} {h:AH} {b j m deep vr:Nat} {x0 x2:AV} {y:Row×AV} {own:Option Nat}
theorem F16_own (or_:h.obj vr=some (mkO (encRA y) 6 42)) {c:Bool}
  (hbad:(c||(own.isSome&&!decide (y.1.kind=sUse)&&!decide (y.1.kind=sRepeat)))=true->aCall Try.prog W 29 [x0,I j,I 100] h (fun t h=>QR [t] h) QP)
  (hgo:(c||(own.isSome&&!decide (y.1.kind=sUse)&&!decide (y.1.kind=sRepeat)))=false->F16.n18 W QR QN QE QP x0 x2 (I deep) (I (ownI own)) (I j) (.ptr vr 0) h) :
  F16.n26 W QR QN QE QP x0 x2 (I deep) (I (ownI own)) (I j) (.ptr vr 0) (B c) h:=by
 have e4:(⟨#[114,101,112,101,97,116]⟩:ByteArray)=sRepeat:=rfl
 have e6:(⟨#[117,115,101]⟩:ByteArray)=sUse:=rfl
 have fin:∀ t,t=(c||(own.isSome&&!decide (y.1.kind=sUse)&&!decide (y.1.kind=sRepeat)))->F16.n20 W QR QN QE QP x0 x2 (I deep) (I (ownI own)) (I j) (.ptr vr 0) (B t) h:=fun t ht=>by
  cases t with
  | true=>simp only [F16.n20,aIf_b,zD,zF,zC,zI,F16.n19];exact hbad ht.symm
  | false=>simp only [F16.n20,aIf_b,zE,zD,zC,zH];exact hgo ht.symm
 cases c with
 | true=>
  have:=fin true rfl
  simpa [-F16.n20,F16.n26,F16.n25,F16.n24,F16.n23,F16.n22,F16.n21] using this
 | false=>
  have fin:=fin _ rfl
  cases own with
  | none=>
   have e:decide ((-1:Int)>=0)=false:=rfl
   show F16.n26 W QR QN QE QP x0 x2 (I deep) (I (-1)) (I j) (.ptr vr 0) (B false) h
   simp only [F16.n26,aIg_b,zT,zE,zD,zC,zI,pBin_geq,e,F16.n25,zS,zH,F16.n24,pPick_b,if_false,F16.n23,F16.n22,F16.n21]
   exact fin
  | some q=>
   have e:(q:Int)>=0:=by omega
   show F16.n26 W QR QN QE QP x0 x2 (I deep) (I (q:Int)) (I j) (.ptr vr 0) (B false) h
   simp only [F16.n26,aIg_b,zT,zE,zD,zC,zI,pBin_geq,zL e,F16.n25,zS,zF,pFld_ptr,lLd_f,or_,ldk_mk,zG,encRA,zA,cellK_some,e6]
   revert fin
   by_cases k1:y.1.kind=sUse <;> by_cases k2:y.1.kind=sRepeat <;> intro fin <;> simp [-F16.n20,k1,k2] at fin <;> simp [-F16.n20,k1,k2,or_,encRA,e4,F16.n24,F16.n23,F16.n22,F16.n21] <;> exact fin
theorem F16_form (or_:h.obj vr=some (mkO (encRA y) 6 42)) (hx2:x2=I ((j:Int)+1+m)) (hb:j+1+m<=200000000) (hdp:deep<=33)
  (hbad:∀ e,formP y.1 m deep own.isSome=e->e≠0->aCall Try.prog W 29 [x0,I j,I e] h (fun t h=>QR [t] h) QP)
  (hgo:formP y.1 m deep own.isSome=0->F16.n18 W QR QN QE QP x0 x2 (I deep) (I (ownI own)) (I j) (.ptr vr 0) h) :
  F16.n48 W QR QN QE QP x0 x2 (I deep) (I (ownI own)) (I j) (.ptr vr 0) h:=by
 have hform:formP y.1 m deep own.isSome=if !knownK y.1.kind||(!bodyK y.1.kind&&y.1.rows != 0)||decide (y.1.rows < 0)||decide ((m:Int) < y.1.rows) then 100 else formB y.1 deep own.isSome:=rfl
 rw [hform] at hbad hgo
 have e1:(⟨#[113,117,98,105,116,115]⟩:ByteArray)=sQubits:=rfl
 have e2:(⟨#[98,105,116,115]⟩:ByteArray)=sBits:=rfl
 have e3:(⟨#[103,97,116,101]⟩:ByteArray)=sGate:=rfl
 have fin:∀ t,t=(!knownK y.1.kind||(!bodyK y.1.kind&&y.1.rows != 0)||decide (y.1.rows < 0)||decide ((m:Int) < y.1.rows))->F16.n39 W QR QN QE QP x0 x2 (I deep) (I (ownI own)) (I j) (.ptr vr 0) (B t) h:=fun t ht=>by
  rw [<-ht] at hbad hgo
  cases t with
  | true=>simp only [F16.n39,aIf_b,zD,zF,zC,zI,F16.n38];exact hbad 100 rfl (by decide)
  | false=>
   simp only [zE,if_false] at hbad hgo
   unfold formB at hbad hgo
   simp only [F16.n39,aIf_b,zE,zD,zC,zH,F16.n37,pBin_gtr,gt_iff_lt]
   by_cases k1:(32:Int) < deep
   ·simp only [zL k1,F16.n36,aIf_b,zD,zF,zC,zI,F16.n35]
    exact hbad 102 (by rw [zX k1]) (by decide)
   ·rw [zW k1] at hbad hgo
    simp only [zK k1,F16.n36,aIf_b,zE,zD,zC,zH,F16.n34,pFld_ptr,lLd_f,or_,ldk_mk,zG,encRA,zA,cellK_some,pBin_seql,e1]
    have fin2:∀ d,d=(decide (0 < (deep:Int))&&declK y.1.kind)->F16.n26 W QR QN QE QP x0 x2 (I deep) (I (ownI own)) (I j) (.ptr vr 0) (B d) h:=fun d hd=>by
     refine F16_own or_ ?_ ?_
     ·intro hc
      refine hbad 100 ?_ (by decide)
      rw [<-hd]
      cases d with
      | true=>rfl
      | false=>simp only [Bool.false_or] at hc;rw [hc];rfl
     ·intro hc
      refine hgo ?_
      rw [<-hd]
      simp only [Bool.or_eq_false_iff] at hc
      rw [hc.1,hc.2];rfl
    have fin2:=fin2 _ rfl
    unfold declK at fin2
    revert fin2
    by_cases k2:0 < deep <;> by_cases k3:y.1.kind=sQubits <;> by_cases k4:y.1.kind=sBits <;> by_cases k5:y.1.kind=sGate <;> intro fin2 <;>
     simp [-F16.n26,k2,k3,k4,k5] at fin2 <;>
     simp [-F16.n26,k2,k3,k4,k5,F16.n33,F16.n32,F16.n31,F16.n30,F16.n29,F16.n28,F16.n27,or_,encRA,e2,e3] <;> exact fin2
 have fin:=fin _ rfl
 have eb:IntKind.i64.wrap ((j:Int)+1+m - j)=(m:Int)+1:=by
  have:(j:Int)+1+m - j=m+1:=by omega
  rw [this];exact wrap_in (by omega) (by omega)
 have eb2:IntKind.i64.wrap (m:Int)=m:=wrap_in (by omega) (by omega)
 simp only [F16.n48,pFld_ptr,lLd_f,or_,ldk_mk,zG,encRA,zA,cellK_some]
 refine ⟨fun _=>False,fun _ h=>h.elim,kind_ok ?_⟩
 cases kn:knownK y.1.kind with
 | false=>
  simp [-F16.n39,kn] at fin
  simpa [-F16.n39,F16.n47,F16.n46,F16.n45,F16.n44,F16.n43,F16.n42,F16.n41,F16.n40] using fin
 | true=>
  simp only [pUn_not,zS,F16.n47,aIg_b,zE,zT,zD,zF,zC,zI,pFld_ptr,lLd_f,or_,ldk_mk,zG,encRA,zA,zB,cellK_some]
  refine ⟨fun _=>False,fun _ h=>h.elim,holds_ok ?_⟩
  subst hx2
  cases bo:bodyK y.1.kind <;> cases k0:(y.1.rows != 0) <;> by_cases k1:y.1.rows < 0 <;> by_cases k2:(m:Int) < y.1.rows <;>
   simp [-F16.n39,kn,bo,k0,k1,k2] at fin <;>
   simp [-F16.n39,or_,encRA,k0,k1,k2,eb,eb2,F16.n46,F16.n45,F16.n44,F16.n43,F16.n42,F16.n41,F16.n40] <;> exact fin
end
end Go.Proofs.Ytjehibknlmehmaa
namespace Go.Proofs.Ytjehibknlmehmaa
open Go.Ab
attribute [-simp] eAlloc_d eStore_f
theorem RT.frB {h h':AH} {xr:AV} {rs:List (Row×AV)} {n0:Nat} (a:RT h xr rs) (f:Fr h h' (TW TB n0 h)):RT h' xr rs:=⟨a.r.frT f rfl,fun y hy=>⟨(a.a y hy).1.frT f rfl,(a.a y hy).2⟩,a.n⟩
theorem RB.ct {h:AH} {n0 b:Nat} {xr:AV} {bk:Bk} {pl er:Int} {xq xb xd:AV} {yl:List (Dfn×AV)} {rs:List (Row×AV)} (rb:RB n0 h b xr bk pl er xq xb xd yl) (rt:RT h xr rs):CtR h b xr xd rs bk.ds yl:=⟨⟨_,rb.b,rfl,rfl⟩,rt,rb.d⟩
section
variable {b:Nat} {xr:AV} {rs:List (Row×AV)} {n0:Nat} {pl er:Int}
theorem lookR_ok (n:Nat):∀ {h:AH} {M:Nat->Prop} {R:AE->AH->Prop} {a deep:Nat} {own:Option Nat} {bk:Bk} {xq xb xd:AV} {yl:List (Dfn×AV)}
  (_:RB n0 h b xr bk pl er xq xb xd yl) (_:RT h xr rs) (_:BkF bk) (_:BkD bk) (_:bk.ds.length<=a) (_:∀ k,own=some k->k+1=bk.ds.length/\0 < deep) (_:a+n<=rs.length) (_:deep<=33) (_:∀ id,TW TB n0 h id->M id)
  (_:∀ pl' e h',lookP deep own a (sg rs a n) bk=.error (pl',e)->BE h' b pl' e->Fr h h' (TW TB n0 h)->R (.ret (B false)) h')
  (_:∀ bk' xq' xb' xd' yl' h',lookP deep own a (sg rs a n) bk=.ok bk'->RB n0 h' b xr bk' pl er xq' xb' xd' yl'->Fr h h' (TW TB n0 h)->R (.ret (B true)) h'),
  ACalls Try.prog 16 [.ptr b 0,I a,I (a+n),I deep,I (ownI own)] h M R:=by
 induction n using Nat.strongRecOn with
 | ind n ih=>
 intro h M R a deep own bk0 xq0 xb0 xd0 yl0 rb0 rt0 bf0 bd0 hdl0 ho0 hn hdeep hM he hk
 apply F16.callsN
 unfold F16.n54 F16.n53 F16.n52
 have hlen:=rt0.n
 have hL:∀ r∈rs.map (·.1),r.args.length<=100000000:=fun r hr=>by
  obtain ⟨z,hz,rfl⟩:=List.mem_map.1 hr
  exact (rt0.a z hz).2
 refine vLoop_of (ι:=Nat×Bk×AV×AV×AV×List (Dfn×AV)) (fun i v h'=>v=[.ptr b 0,I (a+n),I deep,I (ownI own),I (a+(n - i.1:Nat):Int)]/\i.1<=n/\RB n0 h' b xr i.2.1 pl er i.2.2.1 i.2.2.2.1 i.2.2.2.2.1 i.2.2.2.2.2/\BkF i.2.1/\BkD i.2.1/\i.2.1.ds.length<=a+(n - i.1)/\(∀ k,own=some k->k+1=i.2.1.ds.length/\0 < deep) /\
  lookP deep own (a+(n - i.1)) (sg rs (a+(n - i.1)) i.1) i.2.1=lookP deep own a (sg rs a n) bk0/\Fr h h' (TW TB n0 h)) (fun i=>i.1) (n,bk0,xq0,xb0,xd0,yl0) ⟨by simp,zU _,rb0,bf0,bd0,by simpa using hdl0,ho0,by simp,TW.of_fr Fr.refl⟩ ?_
 rintro K ⟨m,bk,xq,xb,xd,yl⟩ v h1 ⟨rfl,hm,rb,bf,bd,hdl,ho,heq,f1⟩ step
 simp only at hm rb bf bd hdl ho heq step
 have rt1:=rt0.frB f1
 unfold F16.g1_
 simp only [zN,zO,F16.n51,pBin_lss]
 cases m with
 | zero=>
  have e1:decide ((a:Int)+(n - 0:Nat) < a+n)=false:=by simp
  rw [sg_0,lookP_nil] at heq
  simp only [e1,F16.n50,aIf_b,zE,zD,zC,zH,zV,F16.n1]
  simpa using hk bk xq xb xd yl h1 heq.symm rb f1
 | succ m=>
  obtain ⟨j,hj⟩:∃ j,j=a+(n - (m+1)):=⟨_,rfl⟩
  have ej:(a:Int)+(n - (m+1):Nat)=(j:Int):=by omega
  have e1:decide ((j:Int) < a+n)=true:=by simp;omega
  rw [<-hj] at heq hdl
  obtain ⟨y,hy⟩:∃ y,rs[j]?=some y:=⟨rs[j]'(by omega),zJ _⟩
  rw [sg_s hy,lookP_cons,sg_len (by omega)] at heq
  have hW1:∀ id,h1.next<=id->(M id\/h.next<=id):=fun id hid=>.inr (zR f1.next hid)
  have hM1:∀ {h2:AH},Fr h h2 (TW TB n0 h)->∀ id,TW TB n0 h2 id->(M id\/h.next<=id):=fun f id hid=>(TW.back f hid).elim (fun h=>.inl (hM id h)) .inr
  have w1:∀ x:Int,0<=x/\x<=1000000000->IntKind.i64.wrap x=x:=fun x hx=>wrap_in (by omega) (by omega)
  simp only [e1,ej,F16.n50,aIf_b,zD,zF,zC,zI,F16.n49,pNil_ptr,pFld_ptr,lLd_f,rb.b,ldk_mk,zG,zA,cellK_some]
  refine rng_var rt1.r encRA_len (rt1.one hy) hy rfl rfl hW1 fun vr h2 f2 _ or2=>?_
  have f02:=TW.trans f1 (TW.of_fr f2)
  have rb2:=rb.fr0 f2
  have rt2:=rt0.frB f02
  have hya2:=rt2.a y (zP hy)
  have hl2:=lens bf.i.ok
  refine F16_form (m:=m) or2 (by rw [show (a:Int)+n=(j:Int)+1+m by omega]) (by omega) hdeep ?_ ?_
  ·intro e hf h0
   rw [zX (by rw [hf];exact h0),hf] at heq
   refine ⟨TW TB n0 h2,fun id hs _=>hM1 f02 id hs,bad_ok rb2.bn rt2 hy (fun _ h=>h) fun h3 be f3=>?_⟩
   simpa using he _ _ h3 heq.symm be (TW.trans f02 f3)
  intro hf
  rw [zW (by simpa using hf)] at heq
  obtain ⟨_,hbr,b0,b1,bdp,hdc,_⟩:=formP_0 hf
  obtain ⟨k,hk'⟩:∃ k:Nat,y.1.rows=k:=⟨y.1.rows.toNat,by omega⟩
  have hkm:k<=m:=by omega
  rw [hk',zY,sg_take hkm,sg_drop] at heq
  simp only [F16.n18]
  refine ⟨TW TB n0 h2,fun id hs _=>hM1 f02 id hs,rowR_ok rb2 rt2 hy bf ⟨hl2.1,hl2.2,by omega⟩ bd (fun q hq=>by have:=(ho q hq).1;omega) (by omega) (fun _ h=>h) ?_ ?_⟩
  ·intro e h3 hr be f3
   rw [hr] at heq
   simp only [pUn_not,zT,F16.n17,aIf_b,zD,zF,zC,zI,F16.n16]
   simpa using he y.1.place e h3 heq.symm be (TW.trans f02 f3)
  ·intro bk1 xq1 xb1 xd1 yl1 h3 hr rb3 f3
   rw [hr] at heq
   simp only at heq
   have f03:=TW.trans f02 f3
   obtain ⟨bi1,x1,_,g2,g3'⟩:=rowP_ok bf.i hya2.2 hr
   obtain ⟨m1,bf1⟩:=rowP_mono bf hya2.2 hr
   have bd1:=rowP_D bd hr
   have or3:h3.obj vr=some (mkO (encRA y) 6 42):=TW.obj f3 or2 rfl
   have rt3:=rt0.frB f03
   have hin:∀ q,(if y.1.kind=sGate then some bk.ds.length else own)=some q->q+1=bk1.ds.length/\0 < deep+1:=fun q hq=>by
    by_cases kg:y.1.kind=sGate
    ·rw [zX kg] at hq
     cases hq
     rw [g3' kg]
     exact ⟨by simp,by omega⟩
    ·rw [zW kg] at hq
     exact ⟨by rw [g2 kg];exact (ho q hq).1,by omega⟩
   have hl1:bk1.ds.length<=j+1:=by
    by_cases kg:y.1.kind=sGate
    ·rw [g3' kg];simp;omega
    ·rw [g2 kg];omega
   have last:∀ bk3 xq3 xb3 xd3 yl3 h7,RB n0 h7 b xr bk3 pl er xq3 xb3 xd3 yl3->BkF bk3->BkD bk3->bk3.ds.length=bk1.ds.length->lookP deep own (j+1+k) (sg rs (j+1+k) (m - k)) bk3=lookP deep own a (sg rs a n) bk0->Fr h h7 (TW TB n0 h) ->
     F16.n2 (fun id=>M id\/h.next<=id) (retV Try.prog [.tmp 10] R) K (fun (i:Nat) (vs:List AV) (h:AH)=>if i=0 then F16.n1 (fun id=>M id\/h.next<=id) (retV Try.prog [.tmp 10] R) (retV Try.prog [.tmp 10] R) (fun _ _ _=>False) (fun v h=>R (.pan v) h) h else False) (fun v h=>R (.pan v) h) (.ptr b 0) (I (a+n)) (I deep) (I (ownI own)) (I ((j:Int)+1+k)) h7:=fun bk3 xq3 xb3 xd3 yl3 h7 rb7 bf7 bd7 hl7 hlk f07=>by
    simp only [F16.n2]
    have e8:j+1+k=a+(n - (m - k)):=by omega
    have e9:(j:Int)+1+k=a+(n - (m - k):Nat):=by omega
    rw [e8] at hlk
    refine step (m - k,bk3,xq3,xb3,xd3,yl3) _ h7 (by simp only;omega) ⟨by rw [<-e9],by simp only;omega,rb7,bf7,bd7,by simp only;omega,fun q hq=>?_,hlk,f07⟩
    obtain ⟨z1,z2⟩:=ho q hq
    have kg:y.1.kind≠sGate:=fun e=>by
     have:=hdc (by omega)
     unfold declK at this
     rw [e] at this
     simp at this
    exact ⟨by simp only;rw [hl7,g2 kg];exact z1,z2⟩
   have eg:(⟨#[103,97,116,101]⟩:ByteArray)=sGate:=rfl
   have after:∀ inner bk2 xq2 xb2 xd2 yl2 h6,inner=(if y.1.kind=sGate then some bk.ds.length else own)->lookP (deep+1) inner (j+1) (sg rs (j+1) k) bk1=.ok bk2->RB n0 h6 b xr bk2 pl er xq2 xb2 xd2 yl2->Fr h3 h6 (TW TB n0 h3) ->
     F16.n6 (fun id=>M id\/h.next<=id) (retV Try.prog [.tmp 10] R) K (fun (i:Nat) (vs:List AV) (h:AH)=>if i=0 then F16.n1 (fun id=>M id\/h.next<=id) (retV Try.prog [.tmp 10] R) (retV Try.prog [.tmp 10] R) (fun _ _ _=>False) (fun v h=>R (.pan v) h) h else False) (fun v h=>R (.pan v) h) (.ptr b 0) (I (a+n)) (I deep) (I (ownI own)) (I j) (.ptr vr 0) (I ((j:Int)+1+k)) (I (ownI inner)) h6:=fun inner bk2 xq2 xb2 xd2 yl2 h6 hinner hl6 rb6 f36=>by
    subst hinner
    have f06:=TW.trans f03 f36
    obtain ⟨bf2,m2,l2,_⟩:=lookP_good hL k (i:=j+1) (deep:=deep+1) (by simp;omega) bf1 hin (by rw [<-sgR_sg];exact hl6)
    have l2:=l2 (by omega)
    have bd2:=lookP_D _ rfl bd1 hl6
    have s2:Seg (sg rs (j+1) k):=(lookP_ok _ rfl (fun r hr=>by
     unfold sg at hr
     obtain ⟨z,hz,rfl⟩:=List.mem_map.1 hr
     exact (rt3.a z (List.mem_of_mem_drop (List.mem_of_mem_take hz))).2) bi1 hl6).2.2
    rw [hl6] at heq
    simp only at heq
    have or6:h6.obj vr=some (mkO (encRA y) 6 42):=TW.obj f36 or3 rfl
    simp only [F16.n6,pFld_ptr,lLd_f,or6,ldk_mk,zG,encRA,zA,zB,cellK_some,pBin_seql,eg]
    by_cases kg:y.1.kind=sGate
    ·simp only [zX kg] at heq
     have eb1:=g3' kg
     have hq1:bk.ds.length < bk2.ds.length:=by rw [l2,eb1];simp
     have hd2:bk2.ds[bk.ds.length]?=some bk2.ds[bk.ds.length]:=zJ hq1
     generalize bk2.ds[bk.ds.length]=d2 at hd2
     obtain ⟨id,x1',cells,c2,c3,hn2,c4⟩:=rb6.setD hd2 (f:=fun d=>{ d with whole:=true }) rfl (o:=6) (v:=B false) (by omega) (fun x=>by simp [encD])
     rw [zX kg]
     have eo:ownI (some bk.ds.length)=(bk.ds.length:Int):=rfl
     rw [eo]
     subst x1'
     simp only [zL kg,F16.n5,aIf_b,zD,zF,zC,zI,F16.n4,pNil_ptr,pFld_ptr,lLd_f,rb6.b,ldk_mk,zG,zA,zB,cellK_some,pIxA_sl,zY,eStore_f,c2,avC_bool,stk_mk]
     refine ⟨⟨by omega,by omega⟩,⟨hM1 f06 id ⟨hn2,_,c2,rfl,rfl⟩,rfl,rfl,by omega⟩,?_⟩
     have f7:Fr h6 (h6.put id (bk.ds.length * 7+6) [B false]) (·=id):=Fr.refl.put (.inl rfl)
     have o7:=put_mk (off:=bk.ds.length * 7+6) (cs:=[B false]) c2
     generalize h6.put id (bk.ds.length * 7+6) [B false]=h7 at *
     obtain ⟨yl7,rb7,g7⟩:=c4 h7 o7 f7
     have f07:=TW.trans f06 g7
     have hd7:(bk2.ds.modify bk.ds.length fun d=>{ d with whole:=true })[bk.ds.length]?=some { d2 with whole:=true }:=by rw [getElem?_modify',zX rfl,hd2];rfl
     obtain ⟨bf7,_⟩:=bf2.modify (k:=bk.ds.length) (f:=fun d=>{ d with whole:=true }) (fun _=>rfl) (fun d hd=>(bf2.i.ok.ds d hd).2)
     simp only [F16.n3]
     refine ⟨fun _=>b,fun _ _=>by rw [rb7.b];simp,?_⟩
     simp only [pNil_ptr,pFld_ptr,lLd_f,rb7.b,ldk_mk,zG,zA,zB,cellK_some,zH,pBin_add,w1 ((j:Int)+1) (by omega)]
     refine ⟨fun _=>False,fun _ h=>h.elim,countR_ok (fun d hd=>(bf7.i.ok.ds d hd).2.2.2) (fun d hd=>(bf7.a d hd).1) (by simp only [List.length_modify];omega) k (a:=j+1) (rb7.ct (rt0.frB f07)) (by omega) s2 fun h8 f8=>?_⟩
     have ecn:=countP_modify (f:=fun d=>{ d with whole:=true }) (fun _=>rfl) (fun _=>rfl) (ds:=bk2.ds) (k:=bk.ds.length) s2 0
     simp only [ecn]
     have f08:=TW.trans f07 (TW.of_fr f8)
     have rb8:=rb7.fr0 f8
     have hcb:=countP_bd (ds:=bk2.ds) (fun d hd=>(bf2.i.ok.ds d hd).2.2.2) s2 0 (by omega)
     generalize hc:countP bk2.ds (sg rs (j+1) k) 0=c at *
     obtain ⟨id',x2',cells',c2',c3',hn2',c4'⟩:=rb8.setD hd7 (f:=fun d=>{ d with ops:=c }) rfl (o:=5) (v:=I c) (by omega) (fun x=>by simp [encD])
     have hid:id=id':=by injection x2'
     subst hid
     simp only [List.length_modify] at x2'
     simp only [pIxA_sl,zY,pFld_ptr,zG,eStore_f,c2',avC_int,stk_mk]
     refine ⟨⟨by omega,by omega⟩,⟨hM1 f08 id ⟨hn2',_,c2',rfl,rfl⟩,rfl,rfl,by omega⟩,?_⟩
     have f9:Fr h8 (h8.put id (bk.ds.length * 7+5) [I c]) (·=id):=Fr.refl.put (.inl rfl)
     have o9:=put_mk (off:=bk.ds.length * 7+5) (cs:=[I c]) c2'
     generalize h8.put id (bk.ds.length * 7+5) [I c]=h9 at *
     obtain ⟨yl9,rb9,g9⟩:=c4' h9 o9 f9
     have e9:({ bk2 with ds:=(bk2.ds.modify bk.ds.length fun d=>{ d with whole:=true }).modify bk.ds.length fun d=>{ d with ops:=c } }:Bk)={ bk2 with ds:=setWhole bk2.ds bk.ds.length c }:=by rw [setWhole_two]
     simp only at rb9
     rw [e9] at rb9
     obtain ⟨bf9,_⟩:=bf2.modify (k:=bk.ds.length) (f:=fun d=>{ d with whole:=true,ops:=c }) (fun _=>rfl) (fun d hd=>by have:=bf2.i.ok.ds d hd;simp only;omega)
     exact last _ _ _ _ _ h9 rb9 bf9 (setWhole_D bd2) (by simp [setWhole,l2]) heq (TW.trans f08 g9)
    ·simp only [zW kg] at heq
     simp only [zK kg,F16.n5,aIf_b,zE,zD,zC,zH]
     exact last bk2 _ _ _ _ h6 rb6 bf2 bd2 l2 heq f06
   simp only [pUn_not,zS,F16.n17,aIf_b,zE,zD,zC,zH,F16.n15,pBin_add,w1 ((j:Int)+1) (by omega),pFld_ptr,lLd_f,or3,ldk_mk,zG,encRA,zA,zB,cellK_some,hk',w1 ((j:Int)+1+k) (by omega),F16.n14,F16.n13,pBin_seql,eg]
   have go:∀ inner,inner=(if y.1.kind=sGate then some bk.ds.length else own)->F16.n11 (fun id=>M id\/h.next<=id) (retV Try.prog [.tmp 10] R) K (fun (i:Nat) (vs:List AV) (h:AH)=>if i=0 then F16.n1 (fun id=>M id\/h.next<=id) (retV Try.prog [.tmp 10] R) (retV Try.prog [.tmp 10] R) (fun _ _ _=>False) (fun v h=>R (.pan v) h) h else False) (fun v h=>R (.pan v) h) (.ptr b 0) (I (a+n)) (I deep) (I (ownI own)) (I j) (.ptr vr 0) (I ((j:Int)+1+k)) (I (ownI inner)) h3:=fun inner hinner=>by
    simp only [F16.n11,pFld_ptr,lLd_f,or3,ldk_mk,zG,encRA,zA,zB,cellK_some]
    refine ⟨fun _=>False,fun _ h=>h.elim,holds_ok ?_⟩
    cases hb:bodyK y.1.kind with
    | true=>
     simp only [F16.n10,aIg_b,zS,zD,zF,zC,zI,pBin_add,w1 ((j:Int)+1) (by omega),w1 ((deep:Int)+1) (by omega)]
     refine ⟨TW TB n0 h3,fun id hs _=>hM1 f03 id hs,ih k (by omega) (a:=j+1) (deep:=deep+1) (own:=inner) rb3 rt3 bf1 bd1 hl1 (by rw [hinner];exact hin) (by omega) (by omega) (fun _ h=>h) ?_ ?_⟩
     ·intro pl' e h6 hl6 be f6
      rw [hinner] at hl6
      rw [hl6] at heq
      simp only [pUn_not,zT,F16.n9,pPick_b,zV,F16.n8,aIf_b,zD,zF,zC,zI,F16.n7]
      simpa using he pl' e h6 heq.symm be (TW.trans f03 f6)
     ·intro bk2 xq2 xb2 xd2 yl2 h6 hl6 rb6 f6
      simp only [pUn_not,zS,F16.n9,pPick_b,zV,F16.n8,aIf_b,zE,zD,zC,zH]
      exact after inner bk2 xq2 xb2 xd2 yl2 h6 hinner hl6 rb6 f6
    | false=>
     have hk0:k=0:=by
      rcases hbr with hbr | hbr
      ·rw [hb] at hbr;cases hbr
      ·omega
     simp only [F16.n10,aIg_b,zS,zE,zD,zC,zH,F16.n9,pPick_b,if_false,F16.n8,aIf_b]
     exact after inner bk1 xq1 xb1 xd1 yl1 h3 hinner (by rw [hk0,sg_0,lookP_nil]) rb3 (TW.of_fr Fr.refl)
   by_cases kg:y.1.kind=sGate
   ·have hlen1:bk1.ds.length=bk.ds.length+1:=by rw [g3' kg];simp
    have hdl1:=rb3.d.len
    have w4:IntKind.i64.wrap ((yl1.length:Int) - 1)=ownI (some bk.ds.length):=by
     have:(yl1.length:Int) - 1=bk.ds.length:=by omega
     rw [this];exact w1 _ (by omega)
    simp only [zL kg,F16.n12,aIf_b,zD,zF,zC,zI,pNil_ptr,pFld_ptr,lLd_f,rb3.b,ldk_mk,zG,zA,zB,cellK_some,rb3.d.t.toR.len.1,rb3.d.t.toR.len.2,zH,pBin_sub,w4]
    exact go (some bk.ds.length) (by rw [zX kg])
   ·simp only [zK kg,F16.n12,aIf_b,zE,zD,zC,zH]
    exact go own (by rw [zW kg])
end
end Go.Proofs.Ytjehibknlmehmaa
