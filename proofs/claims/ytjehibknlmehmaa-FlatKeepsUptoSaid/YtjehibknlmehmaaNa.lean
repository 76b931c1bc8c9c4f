/- The law's own rows; two answers share no memory. No condition. -/
import Derived.Test.YtjehibknlmehmaaHb
set_option maxRecDepth 100000
namespace Go.Ab
attribute [-simp] aX aF
theorem AH.GW{h:AH}{id p:Nat}{cs:List AV}{i:Nat}:(h.wid id p cs).obj i=if i=id then(h.obj i).map (fun o=>{ o with cells:=o.cells.take p++cs }) else h.obj i:=rfl
theorem Fr.wid{h h1:AH}{S:Nat->Prop}(a:Fr h h1 S){id p:Nat}{cs:List AV}(hs:S id\/h.next<=id):Fr h (h1.wid id p cs) S:=
 ⟨a.next,fun i hi hn=>by rw[AH.GW,zW (fun e=>by subst e;exact hs.elim hn (fun h=>by omega))];exact a.dH i hi hn⟩
section
variable {α:Type} {f:α->List AV} {sz bytes:Nat} {ty ty2:TypeId} {h:AH} {W:Nat->Prop}
theorem cH.news{v:AV}{m:List α}(hf:∀x,(f x).length=sz)(hm:cH f sz ty h v m):news sz v h m.length (m.flatMap f):=by
 have kT:(m.flatMap f).length=m.length*sz:=fy hf m
 rcases hm with⟨rfl,rfl⟩ |⟨_,_,rfl,rfl⟩ |⟨id,rest,ro,j3,rfl,_,ho⟩
 ·exact⟨rfl,rfl⟩
 ·exact⟨rfl,rfl⟩
 ·refine .inr ⟨rfl,_,ho,rfl,by simp[kT],?_⟩
  simp only[List.drop_zero]
  rw[<-kT,List.take_left]
theorem Oo{K:AV->AH->Prop}{x v:AV}{l m:List α}(hf:∀x,(f x).length=sz)(hb:bytes<=1024)(hl:bN f sz ty h x l)(hm:cH f sz ty2 h v m)(hw:cP W x)(hn:l.length+m.length<=100100000)
  (hK:∀y h',bN f sz ty h' y (l++m)->((y=x/\m=[])\/cP (h.next<=·) y)->Fr h h' (fun i=>∃off n,x=.sl i off n)->K y h'):fu (some (sz,bytes,ty)) x v h W K:=by
 have vG:(l.flatMap f).length=l.length*sz:=fy hf l
 have sN:(l.length+m.length)*bytes<=140737488355328:=by
  have:(l.length+m.length)*bytes<=100100000*1024:=Nat.mul_le_mul hn hb
  omega
 refine⟨m.length,m.flatMap f,hm.news hf,?_⟩
 rcases hl with⟨rfl,rfl⟩ |⟨id,rfl,ho⟩
 ·show if m.length=0 then _ else _
  by_cases h0:m.length=0
  ·rw[zX h0]
   have:m=[]:=List.length_eq_zero_iff.1 h0
   subst this
   exact hK aW h .nil (.inl ⟨rfl,rfl⟩) Fr.refl
  ·rw[zW h0]
   refine⟨⟨by omega,by simpa using sN⟩,?_⟩
   refine hK _ _ (.inr ⟨h.next,by simp,by rw[AH.cm];simp[aN]⟩) (.inr fun i of n e=>by cases e;exact zU _) (Fr.refl.alloc _)
 ·show if m.length=0 then _ else _
  by_cases h0:m.length=0
  ·rw[zX h0]
   have:m=[]:=List.length_eq_zero_iff.1 h0
   subst this
   exact hK _ h (.inr ⟨id,by simp,by simpa using ho⟩) (.inl ⟨rfl,rfl⟩) Fr.refl
  ·rw[zW h0]
   have hid:=h.lt _ _ ho
   refine .inl ⟨rfl,_,⟨hw _ _ _ rfl,ho,rfl,rfl,rfl,rfl,by simp[aN,vG],by omega,sN⟩,?_⟩
   refine hK _ _ (.inr ⟨h.next,by simp,?_⟩) (.inr fun i of n e=>by cases e;exact zU _) ?_
   ·rw[AH.dy,zX (by simp[AH.jB])]
    simp only[aN]
    rw[List.take_of_length_le (by omega),List.flatMap_append]
   ·refine⟨by simp only[AH.bZ,AH.jB];omega,fun i hi du=>?_⟩
    rw[AH.alloc_old (by simp only[AH.jB];omega),AH.yd fun e=>du ⟨_,_,by rw[e]⟩]
theorem VJ{z:List Value}(hf:∀x,(f x).length=sz)(hJ:0<sz)(hz:z.length=sz+sz){s t:α}(h1:(f s).all cG=true)(h2:(f t).all cG=true){K:AV->AH->Prop}
  (hK:∀h',bN f sz ty h' (.sl h.next 0 2) [s,t]->Fr h h' (fun _=>False)->K (.sl h.next 0 2) h') :
  dX (some (sz,ty,z)) 2 [(0,.agg (f s)),(1,.agg (f t))] h K:=by
 have e1:putCells (z.map AV.sc) 0 (f s)=f s++(z.map AV.sc).drop sz:=by
  conv=>lhs;rw[<-List.take_append_drop sz (z.map AV.sc)]
  rw[mD _ _ _ (by rw[hf];simp;omega)]
 have e2:putCells (f s++(z.map AV.sc).drop sz) sz (f t)=f s++f t:=by
  have:=mj (f s) (f t) ((z.map AV.sc).drop sz) 0
  rw[hf,Nat.add_zero]at this
  rw[this]
  have:=mD (f t) ((z.map AV.sc).drop sz) [] (by rw[hf];simp;omega)
  rw[List.append_nil,List.append_nil]at this
  rw[this]
 have iN:dM (fun i=>some (i*sz,sz)) (z.map .sc) [(0,.agg (f s)),(1,.agg (f t))]=some (f s++f t):=by
  simp only[dM,eY,Nat.zero_mul,Nat.one_mul,zG,hf,zH]
  rw[zX (by simp;omega),e1,zX (by simp[hf];omega),e2]
 refine⟨_,⟨iN,by simp only[List.all_append,h1,h2,Bool.and_self]⟩,hK _ (.inr ⟨_,rfl,?_⟩) (Fr.refl.alloc _)⟩
 rw[AH.cm];simp[aN]
theorem Xd{z:List Value}(hf:∀x,(f x).length=sz)(hJ:0<sz)(hz:z.length=sz)(hb:bytes<=1024)
  {x:AV} {l:List α} {t:α} {K:AV->AH->Prop} {v0:AV} (hv:cM v0=some (f t)) (h1:(f t).all cG=true) (hl:bN f sz ty h x l) (hw:cP W x) (hn:l.length<=100100000)
  (hK:∀y h',bN f sz ty h' y (l++[t])->((∃id,x=.sl id 0 l.length/\y=.sl id 0 (l.length+1)/\Fr h h' (·=id))\/(cP (h.next<=·) y/\Fr h h' (fun _=>False)))->K y h') :
  dX (some (sz,ty,z)) 1 [(0,v0)] h (fun v h4=>fu (some (sz,bytes,ty)) x v h4 W K):=by
 have iN:dM (fun i=>some (i*sz,sz)) (z.map .sc) [(0,v0)]=some (f t):=by
  simp only[dM,hv,Nat.zero_mul,hf,zZ,hz,zG,zU,and_self,zV]
  rw[my (by simp[hf,hz])]
 refine⟨f t,⟨iN,h1⟩,?_⟩
 have sN:(l.length+1)*bytes<=140737488355328:=by
  have:(l.length+1)*bytes<=100100001*1024:=Nat.mul_le_mul (by omega) hb
  omega
 have ja:((f t).drop 0).take (1*sz)=f t:=by rw[List.drop_zero,List.take_of_length_le (by rw[hf];omega)]
 rcases hl with⟨rfl,rfl⟩ |⟨id,rfl,ho⟩
 ·refine⟨1,f t,.inr ⟨rfl,_,AH.cm _ _,rfl,by simp[hf],ja.symm⟩,?_⟩
  show if 1=0 then _ else _
  rw[zW (by omega)]
  refine⟨⟨by omega,by simpa using sN⟩,?_⟩
  refine hK _ _ (.inr ⟨_,rfl,?_⟩) (.inr ⟨fun i off n he=>by cases he;simp only[AH.bZ];omega,(Fr.refl.alloc _).alloc _⟩)
  rw[AH.cm];simp[aN]
 ·have hid:=h.lt _ _ ho
  refine⟨1,f t,.inr ⟨rfl,_,AH.cm _ _,rfl,by simp[hf],ja.symm⟩,?_⟩
  show if 1=0 then _ else _
  rw[zW (by omega)]
  have hlen:(l.flatMap f).length=l.length*sz:=fy hf l
  have P4:(h.alloc { cells:=f t,sz:=sz,ty:=ty }).obj id=some (aN (l.flatMap f) sz ty):=by rw[AH.alloc_old hid];exact ho
  have j8:(l.flatMap f).take (l.length*sz)=l.flatMap f:=List.take_of_length_le (by omega)
  refine .inr ⟨rfl,_,⟨hw _ _ _ rfl,P4,rfl,rfl,rfl,rfl,by simp[aN,hlen],by omega,sN⟩,?_,?_⟩
  ·refine hK _ _ (.inr ⟨id,by simp,?_⟩) (.inl ⟨id,rfl,rfl,(Fr.refl.alloc _).wid (.inl rfl)⟩)
   rw[AH.GW,zX rfl,P4]
   simp only[yB,aN,j8,List.flatMap_append,List.flatMap_cons,List.flatMap_nil,List.append_nil]
  ·refine hK _ _ (.inr ⟨_,by rw[List.length_append,List.length_singleton],?_⟩) (.inr ⟨fun i off n he=>by cases he;simp only[AH.bZ];omega,(Fr.refl.alloc _).alloc _⟩)
   rw[AH.cm]
   simp only[aN,j8,List.flatMap_append,List.flatMap_cons,List.flatMap_nil,List.append_nil]
end
end Go.Ab
namespace Go.Proofs.Ytjehibknlmehmaa
section
open Go.Ab
attribute [-simp] aX aF
theorem re{sz id len k:Nat}{K:AV->Prop}(h:k<len)(hK:K (.ptr id (k*sz))):br (some (sz,none)) (.sl id 0 len) (I k) K:=by
 refine⟨⟨by omega,by omega⟩,?_⟩
 simpa using hK
theorem Ci{K:AV->Prop}{h:AH}{id len u sz:Nat}{cells:List AV}{ty:TypeId}(ho:h.obj id=some (aN cells sz ty))(hs:0<sz)(hu:u*sz<=cells.length)(hK:K (.sl id 0 u)) :
  oE (some sz) (.sl id 0 len) none (some (I u)) h K:=by
 refine⟨0,u,rfl,rfl,⟨Int.le_refl _,by omega,.inr ⟨_,ho,rfl,rfl,hs,.inr ?_⟩⟩,?_⟩
 ·simpa[aN] using hu
 ·simpa using hK
end
section
open Go.Ab
attribute [-simp] aX aF
def pg:Arg:=⟨⟨#[]⟩,71⟩
def a72:Arg:=⟨⟨#[]⟩,72⟩
def r0(n:Int):Row:=⟨⟨#[]⟩,⟨#[]⟩,[],n,0,0⟩
theorem QF{n:Int}:dM (fun i=>[(0,1),(1,1)][i]?) ([Value.string ⟨#[]⟩,.int .i64 0].map .sc) [(1,I n)]=some [Sb ⟨#[]⟩,I n]:=rfl
theorem QD{n:Int}:dM (fun i=>[(0,1),(1,1),(2,1),(3,1),(4,1),(5,1)][i]?) ([Value.string ⟨#[]⟩,.string ⟨#[]⟩,.slice none 0 0,.int .i64 0,.int .i64 0,.int .i64 0].map .sc) [(3,I n)]=some [Sb ⟨#[]⟩,Sb ⟨#[]⟩,aW,I n,I 0,I 0]:=rfl
def sk(n0:Nat)(h:AH)(z:Row×AV):Prop:=∃id,z.2=.sl id 0 z.1.args.length/\n0<=id/\h.obj id=some (aN ((z.1.args++[pg,a72]).flatMap Arg.enc) 2 44)
theorem sk.fr{n0:Nat}{h h':AH}{S:Nat->Prop}{z:Row×AV}(a:sk n0 h z)(f:Fr h h' S)(hs:∀i cs,h.obj i=some (aN cs 2 44)->z.2=.sl i 0 z.1.args.length->¬S i):sk n0 h' z:=by
 obtain⟨id,e,hn,ho⟩:=a
 exact⟨id,e,hn,f.obj ho (hs _ _ ho e)⟩
theorem sk.aU{n0:Nat}{h h':AH}{z:Row×AV}(a:sk n0 h z)(f:Fr h h' fun _=>False):sk n0 h' z:=a.fr f fun _ _ _ _ h=>h
structure QM (h0 h:AH) (x:AV) (L:List (Row×AV)):Prop where
 t:bN ay 6 42 h x L
 n:cP (h0.next<=·) x
 a:∀z∈L,sk h0.next h z
 pw:L.Pairwise fun a b=>Sep a.2 b.2
 f:Fr h0 h (fun _=>False)
section
variable {W:Nat->Prop} {QR QN:VK} {QE:Nat->VK} {QP:AV->AH->Prop} {h0 h:AH} {x0:AV} {rs:List (Row×AV)}
theorem Wc{x3:AV}{L:List (Row×AV)}{i:Nat}{y:Row×AV}(hW:∀id,h0.next<=id->W id)(rt:RT h0 x0 rs)(hlen:rs.length<=20000)(o:QM h0 h x3 L)(hL:L.length<=20000)(hy:rs[i]?=some y)
  (hR:∀z x h',QM h0 h' x (L++[(y.1,z)])->F6.jD W QR QN QE QP x0 x (I i) h'):F6.mQ W QR QN QE QP x0 x3 (I i) h:=by
 unfold F6.mQ
 have ic:=rt.aU o.f
 obtain⟨E_,nl⟩:=ic.a y (zP hy)
 refine gO ic.r cO hy fun _=>?_
 refine g_ (cs:=ay y) (ic.one hy) rfl rfl rfl (fun id hid=>hW id (zR o.f.next hid)) fun v5 h1 f1 X1 o5=>?_
 have g1:=o.f.bX f1
 have w1:∀{k:Nat},h.next<=k->W k:=fun hk=>hW _ (zR o.f.next hk)
 unfold F6.kO
 refine⟨[],⟨rfl,rfl⟩,?_⟩
 have f2:Fr h1 (h1.alloc { cells:=[],sz:=2,ty:=44 }) (fun _=>False):=Fr.refl.alloc _
 have s2:bN Arg.enc 2 44 (h1.alloc { cells:=[],sz:=2,ty:=44 }) (.sl h1.next 0 0) []:=.inr ⟨h1.next,rfl,AH.cm _ _⟩
 have i2:cP (h1.next<=·) (.sl h1.next 0 0):=fun i of n e=>by cases e;exact zU _
 generalize h1.alloc { cells:=[],sz:=2,ty:=44 }=h2 at *
 generalize (AV.sl h1.next 0 0)=xe at *
 refine eD (f2.bM o5) rfl fun _=>?_
 refine Oo Arg.bL (by decide) s2 ((E_.aU f1).aU f2) (fun i of n e=>w1 (zR f1.next (i2 i of n e))) (by simp;omega) fun Xz h3 s3 e3 f3=>?_
 rw[List.nil_append]at s3
 have f13:Fr h1 h3 (fun _=>False):=f2.trans (f3.mono fun i ⟨of,n,e⟩=>.inr (i2 i of n e))
 have i3:cP (h1.next<=·) Xz:=by
  rcases e3 with⟨e,_⟩ |e
  ·rw[e];exact i2
  ·exact fun i of n e'=>zR f2.next (e i of n e')
 have XQ:=f13.bM o5
 refine⟨_,QF,_,QF,?_⟩
 refine VJ (f:=Arg.enc) (s:=pg) (t:=a72) Arg.bL (by decide) rfl (Arg.iE _) (Arg.iE _) fun h4 s4 f4=>?_
 refine Oo (x:=Xz) (m:=[pg,a72]) Arg.bL (by decide) (s3.aO f4 fun _ _ h=>h) s4.cF (fun i of n e=>w1 (zR f1.next (i3 i of n e))) (by simp;omega) fun x6 h5 s5 e5 f5=>?_
 have i5:cP (h4.next<=·) x6:=by
  rcases e5 with⟨_,e⟩ |e
  ·cases e
  ·exact e
 have f14:=f13.bX f4
 have f15:Fr h1 h5 (fun _=>False):=f14.trans (f5.mono fun i ⟨of,n,e⟩=>.inr (i3 i of n e))
 have Pt:=f15.bM o5
 obtain⟨id,rfl⟩:∃id,x6=.sl id 0 (y.1.args++[pg,a72]).length:=s5.sl (by simp)
 have vq:h5.obj id=some (aN ((y.1.args++[pg,a72]).flatMap Arg.enc) 2 44):=by
  rcases s5 with⟨e,_⟩ |⟨j,e,ho⟩
  ·cases e
  ·cases e;exact ho
 have hid:h1.next<=id:=zR f14.next (i5 _ _ _ rfl)
 unfold F6.ir
 refine eD Pt rfl fun _=>?_
 simp only[((E_.aU f1).aU f15).len.1,((E_.aU f1).aU f15).len.2,zH]
 refine Ci vq (by decide) (by rw[fy Arg.bL];simp;omega) ?_
 simp only[ag,aF,Pt,Gi,bG,zG]
 refine⟨⟨w1 X1,rfl,rfl,by simp[ay]⟩,?_⟩
 have TN:=cX (off:=2) (cs:=[.sl id 0 y.1.args.length]) Pt
 have f6:Fr h5 (h5.put v5 2 [.sl id 0 y.1.args.length]) (·=v5):=Fr.refl.put (.inl rfl)
 generalize h5.put v5 2 [.sl id 0 y.1.args.length]=h6 at *
 have TN:h6.obj v5=some (aN (ay (y.1,.sl id 0 y.1.args.length)) 6 42):=TN
 have nV:Fr h h6 (fun _=>False):=(f1.bX f15).trans (f6.mono fun i e=>.inr (by subst e;exact X1))
 unfold F6.jC
 refine di TN rfl fun _=>?_
 have t6:bN ay 6 42 h6 x3 L:=o.t.aO nV fun _ _ h=>h
 have Io:h6.obj id=some (aN ((y.1.args++[pg,a72]).flatMap Arg.enc) 2 44):=f6.obj vq (ci vq Pt (show(44:Nat)≠42 by decide))
 have tu:(ay (y.1,AV.sl id 0 y.1.args.length)).all cG=true:=rfl
 refine I_ (f:=ay) (t:=(y.1,AV.sl id 0 y.1.args.length)) cO (by decide) rfl (by decide) tu t6 (fun i of n e=>hW i (o.n i of n e)) (by omega) fun z h7 s7 i7 k7 n7=>?_
 have f7:Fr h6 h7 (fun i=>∃off n,x3=.sl i off n):=⟨n7,fun i hi hs=>k7 i hi (fun off n he=>hs ⟨off,n,he⟩)⟩
 have no:∀{i:Nat}{cs:List AV},h6.obj i=some (aN cs 2 44)->¬ ∃off n,x3=.sl i off n:=fun{i cs} hi ⟨off,n,e⟩=>by
  rcases t6 with⟨e2,_⟩ |⟨j,e2,hj⟩
  ·rw[e2]at e;cases e
  ·rw[e2]at e;cases e
   rw[hj]at hi;injection hi with hi;injection hi with _ _ hi;exact absurd hi (show(42:Nat)≠44 by decide)
 refine hR _ z h7 ⟨s7,fun i of n e=>zR (o.f.bX nV).next (i7 i of n e),fun w hw=>?_,?_,(o.f.bX nV).trans (f7.mono fun i ⟨of,n,e⟩=>.inr (o.n i of n e))⟩
 ·rcases List.mem_append.1 hw with hw |hw
  ·exact((o.a w hw).aU nV).fr f7 fun i cs hi _=>no hi
  ·simp only[List.mem_singleton]at hw
   subst hw
   exact⟨id,rfl,zR g1.next hid,f7.obj Io (no Io)⟩
 ·rw[List.pairwise_append]
  refine⟨o.pw,List.pairwise_singleton _ _,fun a ha b hb=>?_⟩
  simp only[List.mem_singleton]at hb
  subst hb
  obtain⟨j,e,_,hj⟩:=o.a a ha
  intro i of n of' n' e1 e2
  rw[e]at e1
  cases e1;cases e2
  have h2:=h.lt _ _ hj
  have h3:=f1.next
  omega
structure rY (h0 h:AH) (id:Nat) (rs L:List (Row×AV)):Prop where
 o:h.obj id=some (aN ((L++[(r0 73,aW),(r0 74,aW)]).flatMap ay) 6 42)
 n:h0.next<=id
 e:L.map (·.1)=rs.map (·.1)
 a:∀z∈L,sk h0.next h z
 pw:L.Pairwise fun a b=>Sep a.2 b.2
 f:Fr h0 h (fun _=>False)
theorem Wd(hW:∀id,h0.next<=id->W id)(rt:RT h0 x0 rs)(hlen:rs.length<=20000)
  (hR:∀id L h',rY h0 h' id rs L->F6.gg W QR QN QE QP x0 (.sl id 0 (rs.length+2)) (.sl id 0 rs.length) h'):F6.pZ W QR QN QE QP x0 h0:=by
 unfold F6.pZ
 have w0:IntKind.i64.wrap ((rs.length:Int)+2)=((rs.length+2:Nat):Int):=by rw[aS (by omega) (by omega)];simp
 simp only[rt.r.len.1,rt.r.len.2,zH,aT,w0]
 refine⟨⟨Int.le_refl _,by omega,by omega,by omega,rfl,rfl⟩,?_⟩
 unfold F6.sE F6.qz
 have o1:QM h0 (h0.alloc { cells:=(jb ((0:Int).toNat*6) [.string ⟨#[]⟩,.string ⟨#[]⟩,.slice none 0 0,.int .i64 0,.int .i64 0,.int .i64 0]).map AV.sc,sz:=6,ty:=42 }) (.sl h0.next 0 (0:Int).toNat) []:=by
  refine⟨.inr ⟨h0.next,rfl,?_⟩,(fun i of n e=>by cases e;exact zU _),(fun _ h=>by cases h),.nil,Fr.refl.alloc _⟩
  rw[AH.cm];rfl
 generalize h0.alloc { cells:=(jb ((0:Int).toNat*6) [.string ⟨#[]⟩,.string ⟨#[]⟩,.slice none 0 0,.int .i64 0,.int .i64 0,.int .i64 0]).map AV.sc,sz:=6,ty:=42 }=h1 at *
 generalize (AV.sl h0.next 0 (0:Int).toNat)=x3 at *
 refine bU (ι:=Nat×AV×List (Row×AV)) (fun s v h'=>v=[x0,s.2.1,I s.1]/\s.1<=rs.length/\QM h0 h' s.2.1 s.2.2/\s.2.2.map (·.1)=(rs.map (·.1)).take s.1) (fun s=>rs.length-s.1) (0,x3,[]) ⟨rfl,by omega,o1,rfl⟩ ?_
 clear o1
 rintro K ⟨i,x3,L⟩ v h ⟨rfl,hi,o,e⟩ step
 simp only at hi o e
 have hLl:L.length=i:=by
  have:=congrArg List.length e
  simp only[zZ,yA]at this;omega
 have w3:IntKind.i64.wrap ((i:Int)+1)=((i+1:Nat):Int):=by rw[aS (by omega) (by omega)];simp
 have ic:=rt.aU o.f
 simp only[F6.kV,zN,zO,F6.sF,ic.r.len.1,ic.r.len.2,zH,aZ]
 by_cases aR:i<rs.length
 ·have eh:(i:Int)<rs.length:=by omega
  have g0:rs[i]?=some rs[i]:=zJ aR
  generalize rs[i]=y at *
  simp only[zL eh,F6.mq,aj,zD,zF,zC,zI]
  refine Wc hW rt hlen o (by omega) g0 fun z x h' o'=>?_
  simp only[F6.jD,aT,w3]
  refine step (i+1,x,L++[(y.1,z)]) _ _ (by show _<_;omega) ⟨rfl,by show i+1<=_;omega,o',?_⟩
  show(L++[(y.1,z)]).map (·.1)=(rs.map (·.1)).take (i+1)
  rw[List.map_append,e,List.take_add_one,List.getElem?_map,g0];rfl
 ·have Dp:i=rs.length:=by omega
  have dA:¬((i:Int)<rs.length):=by omega
  rw[Dp,List.take_of_length_le (by rw[zZ];omega)]at e
  simp only[zK dA,F6.mq,aj,zE,zD,zC,zH,zV,zN,zO]
  unfold F6.iu
  refine⟨_,QD,_,QD,?_⟩
  refine VJ (f:=ay) (s:=(r0 73,aW)) (t:=(r0 74,aW)) cO (by decide) rfl rfl rfl fun h2 s2 f2=>?_
  have t2:bN ay 6 42 h2 x3 L:=o.t.aO f2 fun _ _ h=>h
  refine Oo (m:=[(r0 73,aW),(r0 74,aW)]) cO (by decide) t2 s2.cF (fun i of n e=>hW i (o.n i of n e)) (by simp;omega) fun x7 h3 s3 e3 f3=>?_
  have i3:cP (h2.next<=·) x7:=by
   rcases e3 with⟨_,e⟩ |e
   ·cases e
   ·exact e
  obtain⟨id,rfl⟩:∃id,x7=.sl id 0 (L++[(r0 73,aW),(r0 74,aW)]).length:=s3.sl (by simp)
  have vq:h3.obj id=some (aN ((L++[(r0 73,aW),(r0 74,aW)]).flatMap ay) 6 42):=by
   rcases s3 with⟨e,_⟩ |⟨j,e,ho⟩
   ·cases e
   ·cases e;exact ho
  have dR:Fr h0 h3 (fun _=>False):=(o.f.bX f2).trans (f3.mono fun i ⟨of,n,e⟩=>.inr (o.n i of n e))
  have no:∀{i:Nat}{cs:List AV},h2.obj i=some (aN cs 2 44)->¬ ∃off n,x3=.sl i off n:=fun{i cs} hi ⟨off,n,e⟩=>by
   rcases t2 with⟨e2,_⟩ |⟨j,e2,hj⟩
   ·rw[e2]at e;cases e
   ·rw[e2]at e;cases e
    rw[hj]at hi;injection hi with hi;injection hi with _ _ hi;exact absurd hi (show(42:Nat)≠44 by decide)
  have vG:(L++[(r0 73,aW),(r0 74,aW)]).length=rs.length+2:=by rw[List.length_append,hLl,Dp];rfl
  rw[vG]
  have rz:=rt.aU dR
  unfold F6.fq
  simp only[rz.r.len.1,rz.r.len.2,zH]
  refine Ci vq (by decide) (by rw[fy cO,vG];omega) ?_
  exact hR id L h3 ⟨vq,zR (o.f.bX f2).next (i3 _ _ _ rfl),e,fun z hz=>((o.a z hz).aU f2).fr f3 fun i cs hi _=>no hi,o.pw,dR⟩
end
end
section
open Go.Ab
attribute [-simp] aX aF
def SA(L:List (Row×AV))(i:Nat):Prop:=∃z∈L,∃n,z.2=.sl i 0 n
structure KS (h0 h:AH) (id:Nat) (rs L:List (Row×AV)) (v9 v12 ru:Nat) (q b:Int) (xa xb xw:AV) (ya yb yw:List (dS×AV)) (n1 n2 n3:Nat):Prop where
 own:rY h0 h id rs L
 lt:∀z∈L,∀i n,z.2=.sl i 0 n->i<n1
 o9:h.obj v9=some (aN [I q,I b,xa] 3 27)
 Kh:h.obj v12=some (aN [I q,I b,xb] 3 27)
 AU:h.obj ru=some (aN [I q,I b,xw] 3 27)
 fa:mM n1 h xa ya
 fb:mM n2 h xb yb
 fw:kz h xw yw
 nw:D7 n3 xw yw
 la:∀i of n,(xa=.sl i of n\/∃y∈ya,y.2=.sl i of n)->i<n2
 lb:∀i of n,(xb=.sl i of n\/∃y∈yb,y.2=.sl i of n)->i<n3
 nn:h0.next<=n1/\n1<=n2/\n2<=n3
 ea:ya.map (·.1)=yw.map (·.1)
 eb:yb.map (·.1)=yw.map (·.1)
 g:∀y∈ya,OG y.1
 gb:∀y∈yb,OG y.1
 len:yw.length<=4096
 top:n3<=h.next
theorem mM.aU{n:Nat}{h h':AH}{xo:AV}{yl:List (dS×AV)}(a:mM n h xo yl)(f:Fr h h' fun _=>False):mM n h' xo yl:=
 ⟨a.o.aO f fun _ _ h=>h,a.n,fun y hy=>⟨(a.qs y hy).1.aO f fun _ _ h=>h,(a.qs y hy).2⟩,a.pw⟩
theorem mM.ops{n:Nat}{h:AH}{xo:AV}{yl:List (dS×AV)}(a:mM n h xo yl):kz h xo yl:=⟨a.o.cF,fun y hy=>(a.qs y hy).1.cF⟩
theorem mM.lt{n:Nat}{h:AH}{xo:AV}{yl:List (dS×AV)}(a:mM n h xo yl):∀i of m,(xo=.sl i of m\/∃y∈yl,y.2=.sl i of m)->i<h.next:=by
 have key:∀{α:Type}{f:α->List AV}{sz:Nat}{ty:TypeId}{x:AV}{l:List α},bN f sz ty h x l->∀i of m,x=.sl i of m->i<h.next:=fun s i of m e=>by
  rcases s with⟨e2,_⟩ |⟨j,e2,hj⟩
  ·rw[e2]at e;cases e
  ·rw[e2]at e;cases e;exact h.lt _ _ hj
 rintro i of m (e |⟨y,hy,e⟩)
 ·exact key a.o _ _ _ e
 ·exact key (a.qs y hy).1 _ _ _ e
theorem rY.aU{h0 h h':AH}{id:Nat}{rs L:List (Row×AV)}(a:rY h0 h id rs L)(f:Fr h h' fun _=>False):rY h0 h' id rs L:=
 ⟨f.bM a.o,a.n,a.e,fun z hz=>(a.a z hz).aU f,a.pw,a.f.bX f⟩
theorem rY.len{h0 h:AH}{id:Nat}{rs L:List (Row×AV)}(a:rY h0 h id rs L):L.length=rs.length:=by
 have:=congrArg List.length a.e
 simpa using this
theorem rY.rt{h0 h:AH}{x0:AV}{id:Nat}{rs L:List (Row×AV)}(a:rY h0 h id rs L)(rt:RT h0 x0 rs):RT h (.sl id 0 rs.length) L:=by
 have hl:=a.len
 refine⟨.inr (.inr ⟨id,[(r0 73,aW),(r0 74,aW)].flatMap ay,false,42,by rw[hl],fun _=>rfl,by rw[a.o];simp[aN]⟩),fun z hz=>⟨?_,?_⟩,by rw[hl];exact rt.n⟩
 ·obtain⟨j,e,_,hj⟩:=a.a z hz
  exact .inr (.inr ⟨j,[pg,a72].flatMap Arg.enc,false,44,e,fun _=>rfl,by rw[hj];simp[aN]⟩)
 ·have:z.1∈rs.map (·.1):=by rw[<-a.e];exact List.mem_map_of_mem hz
  obtain⟨y,hy,e⟩:=List.mem_map.1 this
  rw[<-e];exact(rt.a y hy).2
section
variable {W:Nat->Prop} {QR QN:VK} {QE:Nat->VK} {QP:AV->AH->Prop} {h0 h:AH} {x0:AV} {rs L:List (Row×AV)} {id:Nat}
theorem OC(hW:∀id,h0.next<=id->W id)(rt:RT h0 x0 rs)(hn:∀y∈rs,y.1.num<=9223372036854775807)(hlen:rs.length<=20000)(o:rY h0 h id rs L)
  (hR:∀v9 v12 ru q b xa xb xw ya yb yw n1 n2 n3 h',KS h0 h' id rs L v9 v12 ru q b xa xb xw ya yb yw n1 n2 n3->F6.cT W QR QN QE QP x0 (.sl id 0 rs.length) (.ptr v9 0) (.ptr v12 0) (.ptr ru 0) h') :
  F6.gg W QR QN QE QP x0 (.sl id 0 (rs.length+2)) (.sl id 0 rs.length) h:=by
 have X_:∀y∈L,y.1.num<=9223372036854775807:=fun z hz=>by
  have:z.1∈rs.map (·.1):=by rw[<-o.e];exact List.mem_map_of_mem hz
  obtain⟨y,hy,e⟩:=List.mem_map.1 this
  rw[<-e];exact hn y hy
 unfold F6.gg
 refine⟨fun _=>False,fun _ h=>h.elim,Aj (o.rt rt) X_ fun xa ya h1 fa na f1=>?_⟩
 rw[o.e]at fa ⊢
 generalize hF:dj (rs.map (·.1))=F at *
 have Ul:=fa.o.fc.one
 have Pr:=o.aU f1
 simp only[dN,zA,zB,ab]
 refine g_ (z:=[.int .i64 0,.int .i64 0,.slice none 0 0]) (sz:=3) (ty:=27) (cs:=[I F.q,I F.b,xa]) (by show(true&&(true&&(cG xa&&true)))=true;rw[Ul.1];rfl) rfl rfl rfl (fun i hid=>hW i (zR Pr.f.next hid)) fun v9 h2 f2 _ o9=>?_
 have Ke:=Pr.aU f2
 unfold F6.hG
 refine⟨fun _=>False,fun _ h=>h.elim,Aj (Ke.rt rt) X_ fun xb yb h3 fb nb f3=>?_⟩
 rw[o.e]at fb ⊢
 rw[hF]at fb ⊢
 have Uk:=fb.o.fc.one
 have Kd:=Ke.aU f3
 simp only[dN,zA,zB,ab]
 refine g_ (z:=[.int .i64 0,.int .i64 0,.slice none 0 0]) (sz:=3) (ty:=27) (cs:=[I F.q,I F.b,xb]) (by show(true&&(true&&(cG xb&&true)))=true;rw[Uk.1];rfl) rfl rfl rfl (fun i hid=>hW i (zR Kd.f.next hid)) fun v12 h4 f4 _ Kh=>?_
 have Kc:=Kd.aU f4
 unfold F6.fg
 refine⟨fun _=>False,fun _ h=>h.elim,Lf (rt.aU Kc.f) hn fun xw yw h5 fw nw f5=>?_⟩
 rw[hF]at fw ⊢
 have hxw:=fw.o.fc.one
 have Pq:=Kc.aU f5
 simp only[dN,zA,zB,ab]
 refine g_ (z:=[.int .i64 0,.int .i64 0,.slice none 0 0]) (sz:=3) (ty:=27) (cs:=[I F.q,I F.b,xw]) (by show(true&&(true&&(cG xw&&true)))=true;rw[hxw.1];rfl) rfl rfl rfl (fun i hid=>hW i (zR Pq.f.next hid)) fun ru h6 f6 _ AU=>?_
 have TF:=Pq.aU f6
 have f26:=((f3.bX f4).bX f5).bX f6
 have f46:=f5.bX f6
 have ea:ya.map (·.1)=yw.map (·.1):=by rw[fa.e,fw.e]
 have eb:yb.map (·.1)=yw.map (·.1):=by rw[fb.e,fw.e]
 have ks:∀{h'},Fr h6 h' (fun _=>False)->KS h0 h' id rs L v9 v12 ru F.q F.b xa xb xw ya yb yw h.next h2.next h4.next:=fun{h'} f'=>by
  refine⟨TF.aU f',fun z hz i n e=>?_,f'.bM (f26.bM o9),f'.bM (f46.bM Kh),f'.bM AU,na.aU ((f2.bX f26).bX f'),nb.aU ((f4.bX f46).bX f'),fw.o.aU (f6.bX f'),nw,fun i of n e=>?_,fun i of n e=>?_,⟨o.f.next,?_,?_⟩,ea,eb,fa.g,fb.g,fw.n,by have:=f46.next;have:=f'.next;omega⟩
  ·obtain⟨j,e2,_,hj⟩:=o.a z hz
   rw[e2]at e;cases e
   exact h.lt _ _ hj
  ·exact Nat.lt_of_lt_of_le (na.lt i of n e) f2.next
  ·exact Nat.lt_of_lt_of_le (nb.lt i of n e) f4.next
  ·have:=f1.next;have:=f2.next;omega
  ·have:=f3.next;have:=f4.next;omega
 have vG:=TF.len
 have c73:((L++[(r0 73,aW),(r0 74,aW)]).flatMap ay)[rs.length*6+3]?=some (I 73):=by
  have:=fm (f:=ay) cO (L++[(r0 73,aW),(r0 74,aW)]) rs.length 3 (by omega)
  rw[this,List.getElem?_append_right (by omega),vG,Nat.sub_self];rfl
 have c74:((L++[(r0 73,aW),(r0 74,aW)]).flatMap ay)[(rs.length+1)*6+3]?=some (I 74):=by
  have:=fm (f:=ay) cO (L++[(r0 73,aW),(r0 74,aW)]) (rs.length+1) 3 (by omega)
  rw[this,List.getElem?_append_right (by omega),vG,show rs.length+1-rs.length=1 by omega];rfl
 have w1:IntKind.i64.wrap ((rs.length:Int)+1)=((rs.length+1:Nat):Int):=by rw[aS (by omega) (by omega)];simp
 simp only[F6.e_,b5,bne_self_eq_false,F6.dO,ck,zT,zS,zF,zE,zD,zC,zI,zH,F6.eu,bu,if_false]
 unfold F6.eC
 simp only[ck,zT,zS,zF,zE,zD,zC,zI,zH]
 refine di (f26.bM o9) rfl fun _=>?_
 refine di AU rfl fun _=>?_
 refine⟨fun _=>False,fun _ h=>h.elim,ww (na.aU (f2.bX f26)).ops (fw.o.aU f6) ea fa.n fa.g fun h7 f7=>?_⟩
 simp only[dq,zS,F6.dL,bu,zE,if_false]
 unfold F6.d_
 simp only[ck,zT,zS,zF,zE,zD,zC,zI,zH]
 refine di (f7.bM (f46.bM Kh)) rfl fun _=>?_
 refine di (f7.bM AU) rfl fun _=>?_
 refine⟨fun _=>False,fun _ h=>h.elim,ww (nb.aU ((f4.bX f46).bX f7)).ops ((fw.o.aU f6).aU f7) eb fb.n fb.g fun h8 f8=>?_⟩
 have f68:=f7.bX f8
 have TE:=TF.aU f68
 have Pn:=rt.aU TE.f
 have i1:∀{k:Nat},(0:Int)<=(k:Int):=fun{k}=>by omega
 simp only[dq,zS,F6.dF,bu,zE,if_false]
 unfold F6.eJ
 simp only[ck,zT,zS,zF,zE,zD,zC,zI,zH,Pn.r.len.1,Pn.r.len.2]
 refine re (by omega) ?_
 simp only[ag,au,TE.o,ao,c73,ab,b5,bne_self_eq_false,F6.ed,bu,zE,if_false]
 unfold F6.dV
 simp only[ck,zT,zS,zF,zE,zD,zC,zI,zH,Pn.r.len.1,Pn.r.len.2,aT,w1]
 refine re (by omega) ?_
 simp only[ag,au,TE.o,ao,c74,ab,b5,bne_self_eq_false,F6.dT,bu,zE,if_false,F6.dW,aj,zD,zC,zH]
 exact hR _ _ _ _ _ _ _ _ _ _ _ _ _ _ _ (ks f68)
end
end
section
open Go.Ab
attribute [-simp] aX aF
def star:Arg:=⟨⟨#[42]⟩,75⟩
def kh(k:Nat)(l:List Arg):List Arg:=List.replicate k star++l.drop k
theorem CP{k:Nat}{l:List Arg}(h:k<=l.length):(kh k l).length=l.length:=by unfold kh;simp;omega
theorem JD{k j:Nat}{l:List Arg}(h:k<=j):(kh k l)[j]?=l[j]?:=by
 unfold kh
 rw[List.getElem?_append_right (by simpa using h),List.length_replicate,List.getElem?_drop]
 congr 1;omega
theorem Q6{l:List Arg}:kh 0 l=l:=by unfold kh;simp
theorem JC{k:Nat}{l:List Arg}(h:k<l.length):putCells ((kh k l).flatMap Arg.enc) (k*2) star.enc=(kh (k+1) l).flatMap Arg.enc:=by
 have e:kh k l=List.replicate k star++l[k]::l.drop (k+1):=by
  unfold kh
  rw[List.drop_eq_getElem_cons h]
 have e2:kh (k+1) l=List.replicate k star++star::l.drop (k+1):=by
  unfold kh
  rw[List.replicate_succ',List.append_assoc];rfl
 have:=qo Arg.bL (List.replicate k star) (l.drop (k+1)) l[k] star
 rw[List.length_replicate]at this
 rw[e,e2,this]
theorem R4:dM (fun i=>[(0,1),(1,1)][i]?) ([Value.string ⟨#[]⟩,.int .i64 0].map .sc) [(0,Sb ⟨#[42]⟩),(1,I 75)]=some star.enc:=rfl
theorem R1(a:Arg){K:AV->Prop}{c:Bool}:ah Pg .neq 44 c (.agg a.enc) (.agg a.enc) K=K (B false):=by
 have h:=Gc a a
 rw[zL rfl]at h
 show((nB Pg 44 a.enc a.enc).isSome=true/\K (.b (!(nB Pg 44 a.enc a.enc).getD false)))=_
 rw[h];simp
section
variable {W:Nat->Prop} {QR QN:VK} {QE:Nat->VK} {QP:AV->AH->Prop} {h0 hK h:AH} {x0 x8 x9 ax aL:AV} {rs L:List (Row×AV)} {i CJ v20:Nat} {y z:Row×AV}
theorem Sa(hW:∀id,h0.next<=id->W id)(rt:RT h0 x0 rs)(f0:Fr h0 h (fun _=>False))(hy:rs[i]?=some y)(ez:z.1=y.1)(az:sk h0.next h z)(yq:h.obj CJ=some (aN (ay z) 6 42))(vu:h.obj v20=some (aN (ay y) 6 42))
  (hR:∀h',Fr h h' (fun i=>z.2=.sl i 0 z.1.args.length)->F6.n2 W QR QN QE QP x0 x8 x9 ax aL (I i) h'):F6.bV W QR QN QE QP x0 x8 x9 ax aL (I i) (.ptr CJ 0) (.ptr v20 0) h:=by
 obtain⟨E_,nl⟩:=rt.a y (zP hy)
 obtain⟨Ba,e2,UR,oz⟩:=az
 have ez2:z.1.args=y.1.args:=by rw[ez]
 rw[ez2]at e2 oz
 have Cq:=E_.aU f0
 obtain⟨z1,z2⟩:=z
 simp only at ez e2 oz
 subst ez e2
 generalize hl:y.1.args=l at *
 have w2:IntKind.i64.wrap ((l.length:Int)+2)=((l.length+2:Nat):Int):=by rw[aS (by omega) (by omega)];simp
 have w1:IntKind.i64.wrap ((l.length:Int)+1)=((l.length+1:Nat):Int):=by rw[aS (by omega) (by omega)];simp
 have c71:((l++[pg,a72]).flatMap Arg.enc)[l.length*2+1]?=some (I 71):=by
  have:=fm (f:=Arg.enc) Arg.bL (l++[pg,a72]) l.length 1 (by omega)
  rw[this,List.getElem?_append_right (zU _),Nat.sub_self];rfl
 have c72:((l++[pg,a72]).flatMap Arg.enc)[(l.length+1)*2+1]?=some (I 72):=by
  have:=fm (f:=Arg.enc) Arg.bL (l++[pg,a72]) (l.length+1) 1 (by omega)
  rw[this,List.getElem?_append_right (by omega),show l.length+1-l.length=1 by omega];rfl
 unfold F6.bV
 refine eD yq rfl fun _=>?_
 refine eD vu rfl fun _=>?_
 simp only[Cq.len.1,Cq.len.2,zH,aT,w2]
 refine Ci oz (by decide) (by rw[fy Arg.bL];simp) ?_
 unfold F6.cl
 refine eD yq rfl fun _=>?_
 refine eD vu rfl fun _=>?_
 simp only[wD,ne_eq,not_true_eq_false,decide_false,decide_true,zS]
 unfold F6.cj
 simp only[ck,zT,zF,zE,zD,zC,zI,zH]
 refine eD yq rfl fun _=>?_
 refine eD vu rfl fun _=>?_
 simp only[wD,ne_eq,not_true_eq_false,decide_false,decide_true,zS,F6.cn,bu,zE,if_false]
 unfold F6.cb
 simp only[ck,zT,zF,zE,zD,zC,zI,zH]
 refine eD yq rfl fun _=>?_
 refine eD vu rfl fun _=>?_
 simp only[b5,bne_self_eq_false,F6.bW,bu,zE,if_false]
 unfold F6.cp
 simp only[ck,zT,zF,zE,zD,zC,zI,zH]
 refine eD yq rfl fun _=>?_
 refine eD vu rfl fun _=>?_
 simp only[b5,bne_self_eq_false,F6.b_,bu,zE,if_false]
 unfold F6.bQ
 simp only[ck,zT,zF,zE,zD,zC,zI,zH]
 refine eD yq rfl fun _=>?_
 refine eD vu rfl fun _=>?_
 simp only[b5,bne_self_eq_false,F6.bO,bu,zE,if_false]
 unfold F6.bH
 simp only[ck,zT,zF,zE,zD,zC,zI,zH]
 refine eD vu rfl fun _=>?_
 simp only[Cq.len.1,Cq.len.2,zH]
 refine re (by omega) ?_
 simp only[ag,au,oz,ao,c71,ab,b5,bne_self_eq_false,F6.bz,bu,zE,if_false]
 unfold F6.bC
 simp only[ck,zT,zF,zE,zD,zC,zI,zH]
 refine eD vu rfl fun _=>?_
 simp only[Cq.len.1,Cq.len.2,zH,aT,w1]
 refine re (by omega) ?_
 simp only[ag,au,oz,ao,c72,ab,b5,bne_self_eq_false,F6.bD,bu,zE,if_false,F6.bt,aj,zD,zC,zH]
 unfold F6.a_ F6.aQ
 have full:(l++[pg,a72]).length=l.length+2:=by simp
 refine bU (ι:=Nat) (fun k v h'=>v=[x0,x8,x9,ax,aL,I i,.ptr CJ 0,.ptr v20 0,.sl Ba 0 (l.length+2),I k]/\k<=l.length/\Fr h h' (·=Ba)/\h'.obj Ba=some (aN ((kh k (l++[pg,a72])).flatMap Arg.enc) 2 44)) (fun k=>l.length-k) 0 ⟨rfl,by omega,Fr.refl,by rw[Q6];exact oz⟩ ?_
 rintro K k v h' ⟨rfl,hk,f,ok⟩ step
 have w3:IntKind.i64.wrap ((k:Int)+1)=((k+1:Nat):Int):=by rw[aS (by omega) (by omega)];simp
 have ZD:=f.obj yq (ci yq oz (show(42:Nat)≠44 by decide))
 have TO:=f.obj vu (ci vu oz (show(42:Nat)≠44 by decide))
 have Cp:cH Arg.enc 2 44 h' y.2 l:=E_.fr (S:=fun i=>i=Ba\/h0.next<=i) (f0.trans (f.mono fun i e=>.inr (by rw[e];exact UR)) |>.mono fun _ h=>h.elim) fun id o ho _ hs=>by
  rcases hs with e |e
  ·subst e;have:=h0.lt _ _ ho;omega
  ·have:=h0.lt _ _ ho;omega
 simp only[F6.fY,zN,zO]
 unfold F6.n9
 refine eD TO rfl fun _=>?_
 simp only[Cp.len.1,Cp.len.2,zH,aZ]
 by_cases aR:k<l.length
 ·have eh:(k:Int)<l.length:=by omega
  have g0:l[k]?=some l[k]:=zJ aR
  generalize l[k]=a at *
  have ga:(kh k (l++[pg,a72]))[k]?=some a:=by rw[JD (zU _),List.getElem?_append_left aR];exact g0
  have hz:cH Arg.enc 2 44 h' (.sl Ba 0 l.length) ((kh k (l++[pg,a72])).take l.length):=by
   have Dk:=CP (k:=k) (l:=l++[pg,a72]) (by rw[full];omega)
   refine .inr (.inr ⟨Ba,((kh k (l++[pg,a72])).drop l.length).flatMap Arg.enc,false,44,?_,fun _=>rfl,?_⟩)
   ·rw[yA,Dk,full,Nat.min_eq_left (by omega)]
   ·rw[ok,<-List.flatMap_append,List.take_append_drop]
  have gz:((kh k (l++[pg,a72])).take l.length)[k]?=some a:=by rw[List.getElem?_take,zX aR];exact ga
  simp only[zL eh,F6.n8,aj,zD,zF,zC,zI]
  unfold F6.n7
  refine eD ZD rfl fun _=>?_
  refine gO hz Arg.bL gz fun _=>?_
  refine eD TO rfl fun _=>?_
  refine gO Cp Arg.bL g0 fun _=>?_
  rw[R1]
  simp only[F6.n6,aj,zE,zD,zC,zH]
  unfold F6.n4
  refine⟨_,R4,?_⟩
  refine re (by omega) ?_
  simp only[aF,ok,eY,bG]
  refine⟨⟨hW _ UR,rfl,rfl,by rw[fy Arg.bL,CP (by rw[full];omega),full];omega⟩,?_⟩
  have f2:Fr h' (h'.put Ba (k*2) star.enc) (·=Ba):=Fr.refl.put (.inl rfl)
  have o2:=cX (off:=k*2) (cs:=star.enc) ok
  rw[JC (by rw[full];omega)]at o2
  generalize h'.put Ba (k*2) star.enc=h2 at *
  simp only[F6.n3,aT,w3]
  exact step (k+1) _ _ (by omega) ⟨rfl,by omega,f.trans (f2.mono fun _ e=>.inl e),o2⟩
 ·have dA:¬((k:Int)<l.length):=by omega
  simp only[zK dA,F6.n8,aj,zE,zD,zC,zH,zV,zN,zO]
  exact hR h' (f.mono fun j e=>by rw[e])
end
end
section
open Go.Ab
attribute [-simp] aX aF
section
variable {W:Nat->Prop} {QR QN:VK} {QE:Nat->VK} {QP:AV->AH->Prop} {h0 hK h:AH} {x0 x9 ax aL:AV} {rs L:List (Row×AV)} {i id:Nat} {y z:Row×AV}
theorem R_(hW:∀id,h0.next<=id->W id)(rt:RT h0 x0 rs)(f0:Fr h0 h (fun _=>False))(hy:rs[i]?=some y)(hz:L[i]?=some z)(Um:cH ay 6 42 h (.sl id 0 rs.length) L)(ez:z.1=y.1)(az:sk h0.next h z)
  (hR:∀h',Fr h h' (fun i=>z.2=.sl i 0 z.1.args.length)->F6.n2 W QR QN QE QP x0 (.sl id 0 rs.length) x9 ax aL (I i) h'):F6.cy W QR QN QE QP x0 (.sl id 0 rs.length) x9 ax aL (I i) h:=by
 have ic:=rt.aU f0
 have nl:i<rs.length:=(zM.1 hy).1
 obtain⟨E9,e0,ab3⟩:∃E9,x0=.sl E9 0 rs.length/\E9<h0.next:=by
  rcases rt.r with⟨_,e⟩ |⟨_,_,_,e⟩ |⟨j,rest,ro,j3,e,_,hj⟩
  ·rw[e]at nl;simp at nl
  ·rw[e]at nl;simp at nl
  ·exact⟨j,e,h0.lt _ _ hj⟩
 have Fl:h.obj E9≠none:=by
  rcases ic.r with⟨_,e⟩ |⟨_,_,_,e⟩ |⟨j,rest,ro,j3,e,_,hj⟩
  ·rw[e]at nl;simp at nl
  ·rw[e]at nl;simp at nl
  ·rw[e0]at e;cases e;rw[hj];simp
 unfold F6.cy
 refine⟨fun _=>E9,fun _ _=>Fl,?_⟩
 have XK:(ay z).all cG=true:=by
  obtain⟨j,e,_⟩:=az
  show(true&&(true&&(cG z.2&&true)))=true
  rw[e];rfl
 have XL:=ic.one hy
 refine gO Um cO hz fun _=>?_
 refine G4 ic.r cO hy fun j e=>?_
 rw[e0]at e
 cases e
 refine⟨rfl,?_⟩
 have go:∀(CJ v20:Nat)(h':AH),Fr h h' (fun _=>False)->h'.obj CJ=some (aN (ay z) 6 42)->h'.obj v20=some (aN (ay y) 6 42)->F6.bV W QR QN QE QP x0 (.sl id 0 rs.length) x9 ax aL (I i) (.ptr CJ 0) (.ptr v20 0) h':=fun CJ v20 h' f' yq vu=>
  Sa hW rt (f0.bX f') hy ez (az.aU f') yq vu fun vT f''=>hR vT ((f'.mono fun _ h=>h.elim).trans (f''.mono fun _ e=>.inl e))
 have n0:=f0.next
 have two:∀{K:AV->AV->AH->Prop},(∀va vb h',va≠vb->h.next<=va->h.next<=vb->Fr h h' (fun _=>False)->h'.obj va=some (aN ([Value.string ⟨#[]⟩,.string ⟨#[]⟩,.slice none 0 0,.int .i64 0,.int .i64 0,.int .i64 0].map AV.sc) 6 42)->h'.obj vb=some (aN ([Value.string ⟨#[]⟩,.string ⟨#[]⟩,.slice none 0 0,.int .i64 0,.int .i64 0,.int .i64 0].map AV.sc) 6 42)->K (.ptr va 0) (.ptr vb 0) h') ->
   bw (some [.string ⟨#[]⟩,.string ⟨#[]⟩,.slice none 0 0,.int .i64 0,.int .i64 0,.int .i64 0]) 6 42 h fun p h1=>bw (some [.string ⟨#[]⟩,.string ⟨#[]⟩,.slice none 0 0,.int .i64 0,.int .i64 0,.int .i64 0]) 6 42 h1 fun p2 h2=>K p p2 h2:=fun{K} hk=>by
  rw[aX]
  refine⟨rfl,?_⟩
  rw[aX]
  refine⟨rfl,?_⟩
  refine hk _ _ _ (by rw[AH.bZ];omega) (zU _) (by rw[AH.bZ];omega) ((Fr.refl.alloc _).alloc _) ?_ (AH.cm _ _)
  rw[AH.alloc_old (by rw[AH.bZ];omega)]
  exact AH.cm _ _
 refine⟨two fun va vb h1 du ha hb f1 oa ob=>?_,two fun va vb h1 du ha hb f1 oa ob=>?_,trivial⟩
 ·simp only[aF,oa,eY,bG]
  refine⟨⟨⟨hW _ (by omega),fun _ _=>by show va≠E9;omega⟩,XK,rfl,by simp⟩,?_⟩
  have wJ:=cX (off:=0) (cs:=ay z) oa
  have f2:Fr h (h1.put va 0 (ay z)) (fun _=>False):=f1.put (.inr ha)
  have C4:(h1.put va 0 (ay z)).obj vb=_:=(Fr.refl.put (S:=(·=va)) (.inl rfl):Fr h1 (h1.put va 0 (ay z)) _).obj ob (fun e=>du e.symm)
  generalize h1.put va 0 (ay z)=h2 at *
  simp only[C4,bG]
  refine⟨⟨hW _ (by omega),XL,rfl,by simp⟩,?_⟩
  have vt:=cX (off:=0) (cs:=ay y) C4
  have Ha:(h2.put vb 0 (ay y)).obj va=_:=(Fr.refl.put (S:=(·=vb)) (.inl rfl):Fr h2 (h2.put vb 0 (ay y)) _).obj wJ du
  exact go va vb _ (f2.put (.inr hb)) Ha vt
 ·simp only[aF,ob,eY,bG]
  refine⟨⟨⟨hW _ (by omega),fun _ _=>by show vb≠E9;omega⟩,XK,rfl,by simp⟩,?_⟩
  have C4:=cX (off:=0) (cs:=ay z) ob
  have f2:Fr h (h1.put vb 0 (ay z)) (fun _=>False):=f1.put (.inr hb)
  have wJ:(h1.put vb 0 (ay z)).obj va=_:=(Fr.refl.put (S:=(·=vb)) (.inl rfl):Fr h1 (h1.put vb 0 (ay z)) _).obj oa du
  generalize h1.put vb 0 (ay z)=h2 at *
  simp only[wJ,bG]
  refine⟨⟨hW _ (by omega),XL,rfl,by simp⟩,?_⟩
  have Ha:=cX (off:=0) (cs:=ay y) wJ
  have vt:(h2.put va 0 (ay y)).obj vb=_:=(Fr.refl.put (S:=(·=va)) (.inl rfl):Fr h2 (h2.put va 0 (ay y)) _).obj C4 (fun e=>du e.symm)
  exact go vb va _ (f2.put (.inr ha)) vt Ha
theorem R9{v9 v12 ru:Nat}(hW:∀id,h0.next<=id->W id)(rt:RT h0 x0 rs)(hlen:rs.length<=20000)(o:rY h0 hK id rs L)
  (hR:∀h',Fr hK h' (SA L)->F6.n1 W QR QN QE QP (.ptr v9 0) (.ptr v12 0) (.ptr ru 0) h'):F6.cT W QR QN QE QP x0 (.sl id 0 rs.length) (.ptr v9 0) (.ptr v12 0) (.ptr ru 0) hK:=by
 have vG:=o.len
 have new:∀j,SA L j->h0.next<=j:=fun j ⟨z,hz,n,e⟩=>by
  obtain⟨k,e2,hn,_⟩:=o.a z hz
  rw[e2]at e;cases e;exact hn
 unfold F6.cT F6.da
 refine bU (ι:=Nat) (fun s v h'=>v=[x0,.sl id 0 rs.length,.ptr v9 0,.ptr v12 0,.ptr ru 0,I s]/\s<=rs.length/\Fr hK h' (SA L)/\∀j z,s<=j->L[j]?=some z->sk h0.next h' z) (fun s=>rs.length-s) 0 ⟨rfl,by omega,Fr.refl,fun j z _ hz=>o.a z (zP hz)⟩ ?_
 rintro K i v h ⟨rfl,hi,f,ha⟩ step
 have w3:IntKind.i64.wrap ((i:Int)+1)=((i+1:Nat):Int):=by rw[aS (by omega) (by omega)];simp
 have f0:Fr h0 h (fun _=>False):=o.f.trans (f.mono fun j hj=>.inr (new j hj))
 have ic:=rt.aU f0
 simp only[F6.cB,zN,zO,F6.cK,ic.r.len.1,ic.r.len.2,zH,aZ]
 by_cases aR:i<rs.length
 ·have eh:(i:Int)<rs.length:=by omega
  have gy:rs[i]?=some rs[i]:=zJ aR
  have gz:L[i]?=some (L[i]'(by omega)):=zJ _
  have ez:(L[i]'(by omega)).1=rs[i].1:=by
   have:=congrArg (fun l=>l[i]?) o.e
   simp only[List.getElem?_map,gy,gz,yB,zQ]at this
   exact this
  generalize rs[i]=y at *
  generalize hzd:(L[i]'(by omega))=z at *
  simp only[zL eh,F6.cz,aj,zD,zF,zC,zI]
  have Um:cH ay 6 42 h (.sl id 0 rs.length) L:=by
   have ho:h.obj id=some (aN ((L++[(r0 73,aW),(r0 74,aW)]).flatMap ay) 6 42):=f.obj o.o fun⟨z,hz,n,e⟩=>by
    obtain⟨k,e2,_,hk⟩:=o.a z hz
    rw[e2]at e;cases e
    rw[o.o]at hk;injection hk with hk;injection hk with _ _ hk;exact absurd hk (show(42:Nat)≠44 by decide)
   exact .inr (.inr ⟨id,[(r0 73,aW),(r0 74,aW)].flatMap ay,false,42,by rw[vG],fun _=>rfl,by rw[ho];simp[aN]⟩)
  have az:=ha i z (zU _) gz
  refine R_ hW rt f0 gy gz Um ez az fun h' f'=>?_
  have hzm:=zP gz
  simp only[F6.n2,aT,w3]
  refine step (i+1) _ _ (by omega) ⟨rfl,by omega,f.trans (f'.mono fun j e=>.inl ⟨z,hzm,_,e⟩),fun j w hj hw=>?_⟩
  refine(ha j w (by omega) hw).fr f' fun k cs _ e e2=>?_
  have hp:=List.pairwise_iff_getElem.1 o.pw i j (by omega) (zM.1 hw).1 (by omega)
  rw[hzd]at hp
  obtain⟨qc,Fs⟩:=zM.1 hw
  rw[Fs]at hp
  exact hp _ _ _ _ _ e2 e
 ·have dA:¬((i:Int)<rs.length):=by omega
  simp only[zK dA,F6.cz,aj,zE,zD,zC,zH,zV,zN,zO]
  exact hR h f
end
end
section
open Go.Ab
attribute [-simp] aX aF
theorem lA{α:Type}{f:α->List AV}{sz:Nat}{ty:TypeId}{h h':AH}{S:Nat->Prop}{x:AV}{l:List α}(hl:cH f sz ty h x l)(hf:Fr h h' S)(hs:∀id n,x=.sl id 0 n->¬S id):cH f sz ty h' x l:=by
 rcases hl with e |e |⟨id,rest,ro,j3,e1,e2,e3⟩
 ·exact .inl e
 ·exact .inr (.inl e)
 ·exact .inr (.inr ⟨id,rest,ro,j3,e1,e2,hf.obj e3 (hs _ _ e1)⟩)
def li(n:Nat)(x:Int):List Int:=List.replicate n x
def pi(k:Nat)(x:Int)(l:List Int):List Int:=List.replicate k x++l.drop k
theorem EE{k:Nat}{x:Int}{l:List Int}(h:k<=l.length):(pi k x l).length=l.length:=by unfold pi;simp;omega
theorem Th{x:Int}{l:List Int}:pi 0 x l=l:=by unfold pi;simp
theorem MH{x:Int}{l:List Int}:pi l.length x l=li l.length x:=by unfold pi li;simp
theorem MG{k:Nat}{x:Int}{l:List Int}(h:k<l.length):putCells ((pi k x l).flatMap cq) (k*1) (cq x)=(pi (k+1) x l).flatMap cq:=by
 have e:pi k x l=List.replicate k x++l[k]::l.drop (k+1):=by
  unfold pi
  rw[List.drop_eq_getElem_cons h]
 have e2:pi (k+1) x l=List.replicate k x++x::l.drop (k+1):=by
  unfold pi
  rw[List.replicate_succ',List.append_assoc];rfl
 have:=qo eX (List.replicate k x) (l.drop (k+1)) l[k] x
 rw[List.length_replicate]at this
 rw[e,e2,this]
section
variable {W:Nat->Prop} {QR QN:VK} {QE:Nat->VK} {QP:AV->AH->Prop} {h:AH} {x3 x4 x5 x8:AV} {i:Nat} {l:List Int}
theorem L7(hi:i<=4096)(hl:l.length<=100000000)(hx:bN cq 1 3 h x8 l)(hW:cP W x8)
  (hR:∀h',Fr h h' (fun j=>∃n,x8=.sl j 0 n)->bN cq 1 3 h' x8 (li l.length (-1-(i:Int)))->eE.dx W QR QN QE QP x3 x4 x5 (I i) x8 h') :
  eE.dF W QR QN QE QP x3 x4 x5 (I i) x8 h:=by
 unfold eE.dF eE.eJ
 refine bU (ι:=Nat) (fun k v h'=>v=[x3,x4,x5,I i,x8,I k]/\k<=l.length/\Fr h h' (fun j=>∃n,x8=.sl j 0 n)/\bN cq 1 3 h' x8 (pi k (-1-(i:Int)) l)) (fun k=>l.length-k) 0 ⟨rfl,by omega,Fr.refl,by rw[Th];exact hx⟩ ?_
 rintro K k v h' ⟨rfl,hk,f,hs⟩ step
 have w3:IntKind.i64.wrap ((k:Int)+1)=((k+1:Nat):Int):=by rw[aS (by omega) (by omega)];simp
 have w4:IntKind.i64.wrap ((-1:Int)-i)=-1-(i:Int):=aS (by omega) (by omega)
 have hlen:=EE (x:=-1-(i:Int)) hk
 simp only[eE.Vl,zN,zO,eE.ed,hs.cF.len.1,hs.cF.len.2,zH,hlen,aZ]
 by_cases aR:k<l.length
 ·have eh:(k:Int)<l.length:=by omega
  simp only[zL eh,eE.dV,aj,zD,zF,zC,zI,eE.dT,jL,w4]
  rcases hs with⟨_,e⟩ |⟨id,e,ho⟩
  ·have:=congrArg List.length e;rw[hlen,List.length_nil]at this;omega
  rw[hlen]at e
  subst e
  refine re aR ?_
  simp only[aF,ho,dC,bG]
  refine⟨⟨hW _ _ _ rfl,rfl,rfl,by rw[fy eX,hlen];omega⟩,?_⟩
  have f2:Fr h' (h'.put id (k*1) [I (-1-(i:Int))]) (·=id):=Fr.refl.put (.inl rfl)
  have o2:=cX (off:=k*1) (cs:=[I (-1-(i:Int))]) ho
  have e3:=MG (x:=-1-(i:Int)) aR
  rw[show cq (-1-(i:Int))=[I (-1-(i:Int))] from rfl]at e3
  rw[e3]at o2
  generalize h'.put id (k*1) [I (-1-(i:Int))]=h2 at *
  simp only[eE.dW,aT,w3]
  refine step (k+1) _ _ (by omega) ⟨rfl,by omega,f.trans (f2.mono fun j e=>.inl ⟨l.length,by rw[e]⟩),.inr ⟨id,by rw[EE (by omega)],o2⟩⟩
 ·have Dp:k=l.length:=by omega
  have dA:¬((k:Int)<l.length):=by omega
  rw[Dp,MH]at hs
  simp only[zK dA,eE.dV,aj,zE,zD,zC,zH,zV,zN,zO]
  exact hR h' f hs
theorem O8{r:List Int}(hi:i<=4096)(hl:r.length<=100000000)(hx:bN cq 1 3 h x8 r)(hW:cP W x8)(hWn:∀j,h.next<=j->W j)
  (hR:∀q h',Fr h h' (fun j=>∃n,x8=.sl j 0 n)->cH cq 1 3 h' x8 r->bN cq 1 3 h' q (r++li 5 (-5000-(i:Int)))->eE.bV W QR QN QE QP x3 x4 x5 (I i) q h') :
  eE.dx W QR QN QE QP x3 x4 x5 (I i) x8 h:=by
 unfold eE.dx eE.cT
 refine bU (ι:=Nat×AV) (fun s v h'=>v=[x3,x4,x5,I i,s.2,I s.1]/\s.1<=5/\Fr h h' (fun j=>∃n,x8=.sl j 0 n)/\cH cq 1 3 h' x8 r/\bN cq 1 3 h' s.2 (r++li s.1 (-5000-(i:Int)))/\cP (fun j=>(∃n,x8=.sl j 0 n)\/h.next<=j) s.2) (fun s=>5-s.1) (0,x8) ⟨rfl,by omega,Fr.refl,hx.cF,by simpa[li] using hx,fun j of n e=>?_⟩ ?_
 ·rcases hx with⟨e2,_⟩ |⟨id,e2,_⟩
  ·simp only at e;rw[e2]at e;cases e
  ·simp only at e;rw[e2]at e;cases e;exact .inl ⟨_,e2⟩
 rintro K ⟨k,q⟩ v h' ⟨rfl,hk,f,hr,hq,KG⟩ step
 simp only at hk hr hq KG
 have w3:IntKind.i64.wrap ((k:Int)+1)=((k+1:Nat):Int):=by rw[aS (by omega) (by omega)];simp
 have w4:IntKind.i64.wrap ((-5000:Int)-i)=-5000-(i:Int):=aS (by omega) (by omega)
 simp only[eE.Vm,zN,zO,eE.da,aZ]
 by_cases aR:k<5
 ·have eh:(k:Int)<5:=by omega
  simp only[zL eh,eE.cK,aj,zD,zF,zC,zI,eE.cz,jL,w4]
  refine Xd (f:=cq) (t:=-5000-(i:Int)) eX (by omega) rfl (by omega) rfl rfl hq (fun j of n e=>?_) (by simp[li];omega) fun y h2 hy hc=>?_
  ·rcases KG j of n e with⟨m,e2⟩ |e2
   ·exact hW _ _ _ e2
   ·exact hWn _ e2
  simp only[eE.cy,aT,w3]
  have ZW:r++li k (-5000-(i:Int))++[-5000-(i:Int)]=r++li (k+1) (-5000-(i:Int)):=by
   rw[List.append_assoc];unfold li;rw[List.replicate_succ']
  rw[ZW]at hy
  rcases hc with⟨id,e1,e2,f2⟩ |⟨hyn,f2⟩
  ·subst e2
   have hid:=KG id 0 _ e1
   have fr:Fr h h2 (fun j=>∃n,x8=.sl j 0 n):=f.trans (f2.mono fun j e=>by subst e;exact hid)
   refine step (k+1,_) _ _ (by show _<_;omega) ⟨rfl,by show k+1<=5;omega,fr,?_,hy,fun j of n e=>by cases e;exact hid⟩
   rcases hid with⟨m,e3⟩ |e3
   ·
    rcases hx with⟨e4,e5⟩ |⟨j,e4,_⟩
    ·rw[e4]at e3;cases e3
    ·rw[e4]at e3;cases e3
     rcases hy with⟨e6,_⟩ |⟨j',e6,hj'⟩
     ·cases e6
     ·injection e6 with e6 _ _
      subst e6
      exact .inr (.inr ⟨id,(li (k+1) (-5000-(i:Int))).flatMap cq,false,3,e4,fun _=>rfl,by rw[hj'];simp[aN]⟩)
   ·refine lA hr f2 fun j n e4 e5=>?_
    subst e5
    rcases hx with⟨e6,_⟩ |⟨j',e6,ho⟩
    ·rw[e6]at e4;cases e4
    ·rw[e6]at e4;cases e4
     have:=h.lt _ _ ho;omega
  ·refine step (k+1,y) _ _ (by show _<_;omega) ⟨rfl,by show k+1<=5;omega,f.trans (f2.mono fun _ h=>h.elim),hr.aU f2,hy,fun j of n e=>.inr (zR f.next (hyn j of n e))⟩
 ·have Dp:k=5:=by omega
  have dA:¬((k:Int)<5):=by omega
  rw[Dp]at hq
  simp only[zK dA,eE.cK,aj,zE,zD,zC,zH,zV,zN,zO]
  exact hR q h' f hr hq
end
end
section
open Go.Ab
attribute [-simp] aX aF
def SQ(yl:List (dS×AV))(j:Nat):Prop:=∃y∈yl,∃n,y.2=.sl j 0 n
structure AK (h:AH) (v3 v4 v5:Nat) (q b:Int) (xa xb xw:AV) (ya yb yw:List (dS×AV)) (n1 n2 n3:Nat):Prop where
 o3:h.obj v3=some (aN [I q,I b,xa] 3 27)
 o4:h.obj v4=some (aN [I q,I b,xb] 3 27)
 o5:h.obj v5=some (aN [I q,I b,xw] 3 27)
 fa:mM n1 h xa ya
 fb:mM n2 h xb yb
 fw:kz h xw yw
 nw:D7 n3 xw yw
 la:∀i of n,(xa=.sl i of n\/∃y∈ya,y.2=.sl i of n)->i<n2
 lb:∀i of n,(xb=.sl i of n\/∃y∈yb,y.2=.sl i of n)->i<n3
 nn:n1<=n2/\n2<=n3
 ea:ya.map (·.1)=yw.map (·.1)
 eb:yb.map (·.1)=yw.map (·.1)
 g:∀y∈ya,OG y.1
 gb:∀y∈yb,OG y.1
 len:yw.length<=4096
section
variable {h:AH} {v3 v4 v5:Nat} {q b:Int} {xa xb xw:AV} {ya yb yw:List (dS×AV)} {n1 n2 n3:Nat}
theorem AK.M6(a:AK h v3 v4 v5 q b xa xb xw ya yb yw n1 n2 n3):ya.length=yw.length:=by
 have:=congrArg List.length a.ea
 simpa using this
theorem AK.fr{h':AH}{S:Nat->Prop}(a:AK h v3 v4 v5 q b xa xb xw ya yb yw n1 n2 n3)(f:Fr h h' S)(hs:∀j,S j->j<n2/\∀cs sz T,h.obj j=some (aN cs sz T)->T≠27) :
  h'.obj v4=some (aN [I q,I b,xb] 3 27)/\h'.obj v5=some (aN [I q,I b,xw] 3 27)/\kz h' xb yb/\kz h' xw yw:=by
 have nb:∀{x:AV},cP (n2<=·) x->∀id n,x=.sl id 0 n->¬S id:=fun hx id n e Be=>by
  have h1:=hx _ _ _ e
  have h2:=(hs _ Be).1
  omega
 have nw:∀{x:AV},cP (n3<=·) x->∀id n,x=.sl id 0 n->¬S id:=fun hx id n e Be=>by
  have h1:=hx _ _ _ e
  have h2:=(hs _ Be).1
  have h3:=a.nn
  omega
 exact⟨f.obj a.o4 fun e=>(hs _ e).2 _ _ _ a.o4 rfl,f.obj a.o5 fun e=>(hs _ e).2 _ _ _ a.o5 rfl,
  ⟨lA a.fb.o.cF f (nb a.fb.n),fun y hy=>lA (a.fb.qs y hy).1.cF f (nb (a.fb.qs y hy).2)⟩,⟨lA a.fw.fc f (nw a.nw.1),fun y hy=>lA (a.fw.qs y hy) f (nw (a.nw.2 y hy))⟩⟩
theorem AK.sq(a:AK h v3 v4 v5 q b xa xb xw ya yb yw n1 n2 n3):∀j,SQ ya j->j<n2/\n1<=j/\∃cs,h.obj j=some (aN cs 1 3):=fun j ⟨y,hy,n,e⟩=>by
 refine⟨a.la _ _ _ (.inr ⟨y,hy,e⟩),(a.fa.qs y hy).2 _ _ _ e,?_⟩
 rcases(a.fa.qs y hy).1 with⟨e2,_⟩ |⟨k,e2,ho⟩
 ·rw[e2]at e;cases e
 ·rw[e2]at e;cases e;exact⟨_,ho⟩
variable {W:Nat->Prop} {QR QN:VK} {QE:Nat->VK} {QP:AV->AH->Prop}
theorem AK.qd{h':AH}(a:AK h v3 v4 v5 q b xa xb xw ya yb yw n1 n2 n3)(f:Fr h h' (SQ ya)):h'.obj v3=some (aN [I q,I b,xa] 3 27)/\h'.obj v4=some (aN [I q,I b,xb] 3 27)/\h'.obj v5=some (aN [I q,I b,xw] 3 27)/\kz h' xb yb/\kz h' xw yw/\bN cf 7 49 h' xa ya:=by
 have no:∀{j:Nat}{cs:List AV}{sz:Nat}{T:TypeId},h.obj j=some (aN cs sz T)->T≠3->¬SQ ya j:=fun{j cs sz T} ho ht hs=>by
  obtain⟨_,_,vW,hj⟩:=a.sq j hs
  rw[ho]at hj;injection hj with hj;injection hj with _ _ hj;exact ht hj
 obtain⟨h1,h2,h3,h4⟩:=a.fr f fun j hs=>⟨(a.sq j hs).1,fun cs sz T ho e=>no ho (by rw[e];decide) hs⟩
 exact⟨f.obj a.o3 (no a.o3 (by decide)),h1,h2,h3,h4,a.fa.o.aO f fun id e hs=>by
  rcases a.fa.o with⟨e2,_⟩ |⟨j,e2,ho⟩
  ·rw[e2]at e;cases e
  ·rw[e2]at e;cases e;exact no ho (by decide) hs⟩
theorem L9(a:AK h v3 v4 v5 q b xa xb xw ya yb yw n1 n2 n3)(hW:∀j,n1<=j->j<n2\/h.next<=j->W j)
  (hR:∀h',Fr h h' (SQ ya)->(∀(j:Nat) y,ya[j]?=some y->cH cq 1 3 h' y.2 (li y.1.aI.length (-1-(j:Int))))->eE.cb W QR QN QE QP (.ptr v3 0) (.ptr v4 0) (.ptr v5 0) h') :
  eE.dO W QR QN QE QP (.ptr v3 0) (.ptr v4 0) (.ptr v5 0) h:=by
 have yJ:=a.M6
 have Yb:=a.len
 unfold eE.dO eE.eu
 refine bU (ι:=Nat) (fun s v h'=>v=[.ptr v3 0,.ptr v4 0,.ptr v5 0,I s]/\s<=ya.length/\Fr h h' (SQ ya)/\(∀(j:Nat) y,j<s->ya[j]?=some y->cH cq 1 3 h' y.2 (li y.1.aI.length (-1-(j:Int))))/\∀(j:Nat) y,s<=j->ya[j]?=some y->bN cq 1 3 h' y.2 y.1.aI) (fun s=>ya.length-s) 0
  ⟨rfl,by omega,Fr.refl,(fun j y h=>by omega),fun j y _ hy=>(a.fa.qs y (zP hy)).1⟩ ?_
 rintro K i v h' ⟨rfl,hi,f,Qj,P9⟩ step
 have w3:IntKind.i64.wrap ((i:Int)+1)=((i+1:Nat):Int):=by rw[aS (by omega) (by omega)];simp
 obtain⟨o3,o4,o5,ob,ow,ta⟩:=a.qd f
 simp only[eE.Vn,zN,zO]
 unfold eE.eC
 refine eD o3 rfl fun _=>?_
 simp only[ta.cF.len.1,ta.cF.len.2,zH,aZ]
 by_cases aR:i<ya.length
 ·have eh:(i:Int)<ya.length:=by omega
  have g0:ya[i]?=some ya[i]:=zJ aR
  have gw:yw[i]?=some (yw[i]'(by omega)):=zJ _
  have ew:(yw[i]'(by omega)).1=ya[i].1:=by
   have:=congrArg (fun l=>l[i]?) a.ea
   simp only[List.getElem?_map,g0,gw,yB,zQ]at this
   exact this.symm
  have P3:=a.fa.pw
  have Yh:∀j,i≠j->∀z,ya[j]?=some z->Sep ya[i].2 z.2:=fun j du z hz=>by
   obtain⟨hj,rfl⟩:=zM.1 hz
   rcases Nat.lt_or_ge i j with h1 |h1
   ·exact List.pairwise_iff_getElem.1 P3 i j aR hj h1
   ·have hs:=List.pairwise_iff_getElem.1 P3 j i hj aR (by omega)
    exact fun id of n of' n' e1 e2=>hs _ _ _ _ _ e2 e1
  generalize ya[i]=y at *
  generalize (yw[i]'(by omega))=yw' at *
  have Hh:=zP g0
  have hq:=P9 i y (zU _) g0
  have p5:=(a.g y Hh).1
  have Ym:cP W y.2:=fun j of n e=>hW j ((a.fa.qs y Hh).2 _ _ _ e) (.inl (a.la _ _ _ (.inr ⟨y,Hh,e⟩)))
  have S7:∀{h1 h2:AH},Fr h1 h2 (fun j=>∃n,y.2=.sl j 0 n)->Fr h1 h2 (SQ ya):=fun g=>g.mono fun j ⟨n,e⟩=>⟨y,Hh,n,e⟩
  simp only[zL eh,eE.dL,aj,zD,zF,zC,zI]
  unfold eE.d_
  refine eD o3 rfl fun _=>?_
  refine dn (k:=2) ta.cF eW g0 (by omega) rfl fun _=>?_
  refine L7 (by omega) p5 hq Ym fun h2 f2 s2=>?_
  refine O8 (by omega) (by rw[li,List.length_replicate];have:=p5;omega) s2 Ym (fun j hj=>?_) fun qx h3 f3 r3 q3=>?_
  ·have h1:=f.next
   have ft:=f2.next
   have h3:=h.lt _ _ a.o3
   refine hW j ?_ (.inr (by omega))
   have hx:n1<=h.next:=by
    rcases(a.fa.qs y Hh).1 with⟨e2,_⟩ |⟨k,e2,ho⟩
    ·rcases a.fa.o with⟨e3,e4⟩ |⟨k,e3,ho⟩
     ·rw[e4]at aR;simp at aR
     ·have:=a.fa.n _ _ _ e3
      have:=h.lt _ _ ho
      omega
    ·have:=(a.fa.qs y Hh).2 _ _ _ e2
     have:=h.lt _ _ ho
     omega
   omega
  have f13:Fr h' h3 (SQ ya):=(S7 f2).trans ((S7 f3).mono fun _ h=>.inl h)
  have dR:=f.trans (f13.mono fun _ h=>.inl h)
  obtain⟨Pu,o43,XQ,vt,tP,ta3⟩:=a.qd dR
  unfold eE.bV
  simp only[q3.cF.len.1,q3.cF.len.2,zH]
  refine eD XQ rfl fun _=>?_
  refine dn (k:=2) tP.fc eW gw (by omega) rfl fun _=>?_
  have UA:=tP.qs yw' (zP gw)
  rw[ew]at UA
  have w5:IntKind.i64.wrap ((y.1.aI.length:Int)+5)=((y.1.aI.length+5:Nat):Int):=by rw[aS (by omega) (by omega)];simp
  have hl5:(li y.1.aI.length (-1-(i:Int))++li 5 (-5000-(i:Int))).length=y.1.aI.length+5:=by simp[li]
  simp only[UA.len.1,UA.len.2,zH,aT,w5,hl5,b5,bne_self_eq_false,eE.cl,aj,zE,zD,zC,eE.cn,w3]
  refine step (i+1) _ _ (by omega) ⟨rfl,by omega,dR,fun j z hj hz=>?_,fun j z hj hz=>?_⟩
  ·by_cases e:j=i
   ·subst e
    rw[g0]at hz;cases hz
    exact r3
   ·have h1:=Qj j z (by omega) hz
    have uO:=Yh j (fun e'=>e e'.symm) z hz
    refine lA h1 (f2.trans (f3.mono fun _ h=>.inl h)) fun id n e1 ⟨m,e2⟩=>uO _ _ _ _ _ e2 e1
  ·have h1:=P9 j z (by omega) hz
   have uO:=Yh j (by omega) z hz
   exact h1.aO (f2.trans (f3.mono fun _ h=>.inl h)) fun id e1 ⟨m,e2⟩=>uO _ _ _ _ _ e2 e1
 ·have Dp:i=ya.length:=by omega
  have dA:¬((i:Int)<ya.length):=by omega
  simp only[zK dA,eE.dL,aj,zE,zD,zC,zH,zV,zN,zO]
  exact hR h' f fun j y hy=>Qj j y (by have:=(zM.1 hy).1;omega) hy
theorem Jk{h':AH}(a:AK h v3 v4 v5 q b xa xb xw ya yb yw n1 n2 n3)(f:Fr h h' (SQ ya))(hd:∀(j:Nat) y,ya[j]?=some y->cH cq 1 3 h' y.2 (li y.1.aI.length (-1-(j:Int))))
  (hR:eE.aQ W QR QN QE QP (.ptr v3 0) (.ptr v4 0) (.ptr v5 0) h'):eE.cb W QR QN QE QP (.ptr v3 0) (.ptr v4 0) (.ptr v5 0) h':=by
 have yJ:=a.M6
 have Yb:=a.len
 obtain⟨o3,o4,o5,ob,ow,ta⟩:=a.qd f
 unfold eE.cb eE.bW
 refine bU (ι:=Nat) (fun s v h2=>v=[.ptr v3 0,.ptr v4 0,.ptr v5 0,I s]/\s<=ya.length/\h2=h') (fun s=>ya.length-s) 0 ⟨rfl,by omega,rfl⟩ ?_
 rintro K i v h2 ⟨rfl,hi,rfl⟩ step
 have w3:IntKind.i64.wrap ((i:Int)+1)=((i+1:Nat):Int):=by rw[aS (by omega) (by omega)];simp
 simp only[eE.fY,zN,zO]
 unfold eE.cp
 refine eD o3 rfl fun _=>?_
 simp only[ta.cF.len.1,ta.cF.len.2,zH,aZ]
 by_cases aR:i<ya.length
 ·have eh:(i:Int)<ya.length:=by omega
  have g0:ya[i]?=some ya[i]:=zJ aR
  generalize ya[i]=y at *
  have hy:=hd i y g0
  have p5:=(a.g y (zP g0)).1
  have Hi:(li y.1.aI.length (-1-(i:Int))).length=y.1.aI.length:=by simp[li]
  have w4:IntKind.i64.wrap ((-1:Int)-i)=-1-(i:Int):=aS (by omega) (by omega)
  simp only[zL eh,eE.b_,aj,zD,zF,zC,zI]
  unfold eE.bQ eE.bO
  refine bU (ι:=Nat) (fun k v h3=>v=[.ptr v3 0,.ptr v4 0,.ptr v5 0,I i,I k]/\k<=y.1.aI.length/\h3=h2) (fun k=>y.1.aI.length-k) 0 ⟨rfl,by omega,rfl⟩ ?_
  rintro K2 k v h3 ⟨rfl,hk,rfl⟩ step2
  have w5:IntKind.i64.wrap ((k:Int)+1)=((k+1:Nat):Int):=by rw[aS (by omega) (by omega)];simp
  simp only[eE.kV,zN,zO]
  unfold eE.bH
  refine eD o3 rfl fun _=>?_
  refine dn (k:=2) ta.cF eW g0 (by omega) rfl fun _=>?_
  simp only[hy.len.1,hy.len.2,zH,Hi,aZ]
  by_cases Nq:k<y.1.aI.length
  ·have aaJ:(k:Int)<y.1.aI.length:=by omega
   have gk:(li y.1.aI.length (-1-(i:Int)))[k]?=some (-1-(i:Int)):=by unfold li;rw[List.getElem?_replicate,zX Nq]
   simp only[zL aaJ,eE.bz,aj,zD,zF,zC,zI]
   unfold eE.bC
   refine eD o3 rfl fun _=>?_
   refine dn (k:=2) ta.cF eW g0 (by omega) rfl fun _=>?_
   refine gZ hy eX gk rfl fun _=>?_
   simp only[jL,w4,b5,bne_self_eq_false,eE.bD,aj,zE,zD,zC,zH,eE.bc,aT,w5]
   exact step2 (k+1) _ _ (by omega) ⟨rfl,by omega,rfl⟩
  ·have dA:¬((k:Int)<y.1.aI.length):=by omega
   simp only[zK dA,eE.bz,aj,zE,zD,zC,zH,zV,zN,zO,eE.a_,aT,w3]
   exact step (i+1) _ _ (by omega) ⟨rfl,by omega,rfl⟩
 ·have dA:¬((i:Int)<ya.length):=by omega
  simp only[zK dA,eE.b_,aj,zE,zD,zC,zH,zV,zN,zO]
  exact hR
end
end
section
open Go.Ab
attribute [-simp] aX aF
def Pp:dS:=⟨9,⟨#[]⟩,[],0,false,0,0⟩
theorem Xa:dM (fun i=>[(0,1),(1,1),(2,1),(3,1),(4,1),(5,1),(6,1)][i]?) ([Value.int .i64 0,.string ⟨#[]⟩,.slice none 0 0,.int .i64 0,.bool false,.int .u64 0,.int .u64 0].map .sc) [(0,I 9)]=some (cf (Pp,aW)):=rfl
section
variable {h:AH} {v3 v4 v5:Nat} {q b:Int} {xa xb xw:AV} {ya yb yw:List (dS×AV)} {n1 n2 n3:Nat} {W:Nat->Prop} {QR QN:VK} {QE:Nat->VK} {QP:AV->AH->Prop} {M:Nat->Prop} {R:AE->AH->Prop}
theorem L8{h':AH}(a:AK h v3 v4 v5 q b xa xb xw ya yb yw n1 n2 n3)(f:Fr h h' (SQ ya))(hv:v3≠v4/\v3≠v5/\n2<=v3)(hW:W v3/\(∀j,n1<=j->j<n2\/h.next<=j->W j))(hn:n1<=h.next)(PV:∀j of n,(xb=.sl j of n\/(∃y∈yb,y.2=.sl j of n)\/xw=.sl j of n\/∃y∈yw,y.2=.sl j of n)->j≠v3)
  (hR:∀vT,QR [B true] vT):eE.aQ W QR QN QE QP (.ptr v3 0) (.ptr v4 0) (.ptr v5 0) h':=by
 have yJ:=a.M6
 have Yb:=a.len
 obtain⟨o3,o4,o5,ob,ow,ta⟩:=a.qd f
 have Bn:cP (fun j=>n1<=j/\j<n2) xa:=fun j of n e=>⟨a.fa.n _ _ _ e,a.la _ _ _ (.inl e)⟩
 unfold eE.aQ eE.n9
 refine bU (ι:=Nat×AV×List (dS×AV)) (fun s v h2=>v=[.ptr v3 0,.ptr v4 0,.ptr v5 0,I s.1]/\s.1<=5/\Fr h' h2 (fun j=>j=v3\/(n1<=j/\j<n2/\∃cs,h'.obj j=some (aN cs 7 49)))/\h2.obj v3=some (aN [I q,I b,s.2.1] 3 27)/\bN cf 7 49 h2 s.2.1 s.2.2/\s.2.2.length=ya.length+s.1/\cP (fun j=>(n1<=j/\j<n2/\∃cs,h'.obj j=some (aN cs 7 49))\/h'.next<=j) s.2.1) (fun s=>5-s.1) (0,xa,ya)
  ⟨rfl,by omega,Fr.refl,o3,ta,rfl,fun j of n e=>?_⟩ ?_
 ·obtain⟨h1,h2⟩:=Bn j of n e
  rcases ta with⟨e2,_⟩ |⟨k,e2,ho⟩
  ·simp only at e;rw[e2]at e;cases e
  ·simp only at e;rw[e2]at e;cases e;exact .inl ⟨h1,h2,_,ho⟩
 rintro K ⟨k,x,l⟩ v h2 ⟨rfl,hk,f2,Kg,t2,oK,i2⟩ step
 simp only at hk Kg t2 oK i2
 have w3:IntKind.i64.wrap ((k:Int)+1)=((k+1:Nat):Int):=by rw[aS (by omega) (by omega)];simp
 simp only[eE.cB,zN,zO,eE.n8,aZ]
 by_cases aR:k<5
 ·have eh:(k:Int)<5:=by omega
  simp only[zL eh,eE.n7,aj,zD,zF,zC,zI]
  unfold eE.n6
  refine eD Kg rfl fun _=>?_
  refine⟨_,Xa,?_⟩
  refine I_ (f:=cf) (t:=(Pp,aW)) eW (by decide) rfl (by decide) rfl t2 (fun j of n e=>?_) (by omega) fun y h3 s3 i3 k3 nx3=>?_
  ·rcases i2 j of n e with⟨h1,h4,_⟩ |h1
   ·exact hW.2 j h1 (.inl h4)
   ·have:=f.next
    exact hW.2 j (by omega) (.inr (by omega))
  have f3:Fr h2 h3 (fun j=>∃off n,x=.sl j off n):=⟨nx3,fun j hj hs=>k3 j hj (fun off n he=>hs ⟨off,n,he⟩)⟩
  have hxv:¬ ∃off n,x=.sl v3 off n:=fun⟨off,n,e⟩=>by
   rcases t2 with⟨e2,_⟩ |⟨j,e2,ho⟩
   ·rw[e2]at e;cases e
   ·rw[e2]at e;cases e
    rw[Kg]at ho;injection ho with ho;injection ho with _ _ ho;exact absurd ho (show(27:Nat)≠49 by decide)
  have Pu:=f3.obj Kg hxv
  have TH:=s3.cF.one
  simp only[ag,aF,Pu,TH.2,bG,zG]
  refine⟨⟨hW.1,by show(cG y&&true)=true;rw[TH.1];rfl,rfl,by simp⟩,?_⟩
  have o34:=cX (off:=2) (cs:=[y]) Pu
  have f4:Fr h3 (h3.put v3 2 [y]) (·=v3):=Fr.refl.put (.inl rfl)
  generalize h3.put v3 2 [y]=h4 at *
  have s4:bN cf 7 49 h4 y (l++[(Pp,aW)]):=s3.aO f4 fun id e he=>by
   subst he
   rcases s3 with⟨e2,_⟩ |⟨j,e2,ho⟩
   ·rw[e2]at e;cases e
   ·rw[e2]at e;cases e
    rw[Pu]at ho;injection ho with ho;injection ho with _ _ ho;exact absurd ho (show(27:Nat)≠49 by decide)
  simp only[eE.n5,aT,w3]
  refine step (k+1,y,l++[(Pp,aW)]) _ _ (by show _<_;omega) ⟨rfl,by show k+1<=5;omega,?_,by simpa[putCells] using o34,s4,by simp[oK];omega,fun j of n e=>.inr (zR f2.next (i3 j of n e))⟩
  refine(f2.trans (f3.mono fun j ⟨of,n,e⟩=>?_)).trans (f4.mono fun j e=>.inl (.inl e))
  rcases i2 j of n e with h1 |h1
  ·exact .inl (.inr h1)
  ·exact .inr h1
 ·have Dp:k=5:=by omega
  have dA:¬((k:Int)<5):=by omega
  simp only[zK dA,eE.n7,aj,zE,zD,zC,zH,zV,zN,zO]
  have o42:=f2.obj o4 (fun e=>by
   rcases e with e |⟨_,_,cs,e⟩
   ·exact hv.1 e.symm
   ·rw[o4]at e;injection e with e;injection e with _ _ e;exact absurd e (show(27:Nat)≠49 by decide))
  have XS:=f2.obj o5 (fun e=>by
   rcases e with e |⟨_,_,cs,e⟩
   ·exact hv.2.1 e.symm
   ·rw[o5]at e;injection e with e;injection e with _ _ e;exact absurd e (show(27:Nat)≠49 by decide))
  have nS:∀{x:AV},(∀j of n,x=.sl j of n->j≠v3/\n2<=j)->∀id n,x=.sl id 0 n->¬(id=v3\/(n1<=id/\id<n2/\∃cs,h'.obj id=some (aN cs 7 49))):=fun hx id n e hs=>by
   obtain⟨h1,h2⟩:=hx _ _ _ e
   rcases hs with hs |⟨_,hs,_⟩
   ·exact h1 hs
   ·omega
  have P7:=a.nn
  have C4:kz h2 xb yb:=⟨lA ob.fc f2 (nS fun j of n e=>⟨PV _ _ _ (.inl e),a.fb.n _ _ _ e⟩),fun y hy=>lA (ob.qs y hy) f2 (nS fun j of n e=>⟨PV _ _ _ (.inr (.inl ⟨y,hy,e⟩)),(a.fb.qs y hy).2 _ _ _ e⟩)⟩
  have EM:kz h2 xw yw:=⟨lA ow.fc f2 (nS fun j of n e=>⟨PV _ _ _ (.inr (.inr (.inl e))),by have:=a.nw.1 _ _ _ e;omega⟩),fun y hy=>lA (ow.qs y hy) f2 (nS fun j of n e=>⟨PV _ _ _ (.inr (.inr (.inr ⟨y,hy,e⟩))),by have:=a.nw.2 y hy _ _ _ e;omega⟩)⟩
  have UN:yb.length=yw.length:=by
   have:=congrArg List.length a.eb
   simpa using this
  unfold eE.n4
  refine di o42 rfl fun _=>?_
  refine di XS rfl fun _=>?_
  refine⟨fun _=>False,fun _ h=>h.elim,ww C4 EM a.eb (by omega) a.gb fun h3 f3=>?_⟩
  unfold eE.n3
  simp only[ck,zS,zF,zD,zC,zI]
  refine eD (f3.bM Kg) rfl fun _=>?_
  have t3:bN cf 7 49 h3 x l:=t2.aO f3 fun _ _ h=>h
  simp only[t3.cF.len.1,t3.cF.len.2,zH]
  refine eD (f3.bM XS) rfl fun _=>?_
  have tP:=EM.aU f3
  have w5:IntKind.i64.wrap ((yw.length:Int)+5)=((yw.length+5:Nat):Int):=by rw[aS (by omega) (by omega)];simp
  have e5:l.length=yw.length+5:=by omega
  simp only[tP.fc.len.1,tP.fc.len.2,zH,aT,w5,eG,e5,beq_self_eq_true,eE.n2,bu,zV,eE.n1]
  exact hR h3
theorem Oq(a:AK h v3 v4 v5 q b xa xb xw ya yb yw n1 n2 n3)(hn:n1<=h.next/\n2<=h.next)(hM:∀j,n1<=j->j<n2->M j)(hR:∀h',R (.ret (B true)) h') :
  aE Pg 15 [.agg [I q,I b,xa],.agg [I q,I b,xb],.agg [I q,I b,xw]] h M R:=by
 apply eE.aM
 unfold eE.e_
 have MS:∀{x:AV},cG x=true->([I q,I b,x]:List AV).all cG=true:=fun hx=>by show(true&&(true&&(cG _&&true)))=true;rw[hx];rfl
 refine dB (cs:=[I q,I b,xa]) (MS a.fa.o.cF.one.1) fun u3 h1 f1 g3 o3=>?_
 refine dB (cs:=[I q,I b,xb]) (MS a.fb.o.cF.one.1) fun u4 h2 f2 g4 o4=>?_
 refine dB (cs:=[I q,I b,xw]) (MS a.fw.fc.one.1) fun u5 h3 f3 g5 o5=>?_
 have dR:=(f1.bX f2).bX f3
 have ak:AK h3 u3 u4 u5 q b xa xb xw ya yb yw n1 n2 n3:=⟨f3.bM (f2.bM o3),f3.bM o4,o5,a.fa.aU dR,a.fb.aU dR,a.fw.aU dR,a.nw,a.la,a.lb,a.nn,a.ea,a.eb,a.g,a.gb,a.len⟩
 have l1:=h1.lt _ _ o3
 have l2:=h2.lt _ _ o4
 have e1:=f1.next;have e2:=f2.next;have e3:=f3.next
 have hW:∀j,n1<=j->j<n2\/h3.next<=j->(M j\/h.next<=j):=fun j hj hc=>by
  rcases hc with hc |hc
  ·exact .inl (hM j hj hc)
  ·exact .inr (by omega)
 refine L9 ak hW fun h4 f4 hd=>?_
 refine Jk ak f4 hd ?_
 have rF:∀{α:Type}{fe:α->List AV}{sz:Nat}{ty:TypeId}{x:AV}{l:List α},cH fe sz ty h x l->∀j of n,x=.sl j of n->j≠u3:=fun s j of n e=>by
  rcases s with⟨e2,_⟩ |⟨_,_,e2,_⟩ |⟨k,rest,ro,j3,e2,_,ho⟩
  ·rw[e2]at e;cases e
  ·rw[e2]at e;cases e
  ·rw[e2]at e;cases e
   have:=h.lt _ _ ho
   omega
 refine L8 ak f4 ⟨by omega,by omega,by omega⟩ ⟨.inr g3,hW⟩ (by omega) (fun j of n hc=>?_) fun h5=>?_
 ·rcases hc with e |⟨y,hy,e⟩ |e |⟨y,hy,e⟩
  ·exact rF a.fb.o.cF j of n e
  ·exact rF (a.fb.qs y hy).1.cF j of n e
  ·exact rF a.fw.fc j of n e
  ·exact rF (a.fw.qs y hy) j of n e
 ·simpa using hR h5
end
end
section
open Go.Ab
attribute [-simp] aX aF
section
variable {h0 h:AH} {M:Nat->Prop} {R:AE->AH->Prop} {xr:AV} {rs L:List (Row×AV)} {id v9 v12 ru:Nat} {q b:Int} {xa xb xw:AV} {ya yb yw:List (dS×AV)} {n1 n2 n3:Nat}
theorem KS.ak{h':AH}(k:KS h0 h id rs L v9 v12 ru q b xa xb xw ya yb yw n1 n2 n3)(f:Fr h h' (SA L)):AK h' v9 v12 ru q b xa xb xw ya yb yw n1 n2 n3:=by
 have sa:∀j,SA L j->j<n1/\∃cs,h.obj j=some (aN cs 2 44):=fun j ⟨z,hz,n,e⟩=>by
  refine⟨k.lt z hz j n e,?_⟩
  obtain⟨i,e2,_,ho⟩:=k.own.a z hz
  rw[e2]at e;cases e
  exact⟨_,ho⟩
 have no:∀{j:Nat}{cs:List AV}{sz:Nat}{T:TypeId},h.obj j=some (aN cs sz T)->T≠44->¬SA L j:=fun ho ht hs=>by
  obtain⟨_,vW,hj⟩:=sa _ hs
  rw[ho]at hj;injection hj with hj;injection hj with _ _ hj;exact ht hj
 have DP:∀{α:Type}{fe:α->List AV}{sz:Nat}{ty:TypeId}{x:AV}{l:List α},ty≠44->bN fe sz ty h x l->bN fe sz ty h' x l:=fun ht s=>s.aO f fun j e hs=>by
  rcases s with⟨e2,_⟩ |⟨i,e2,ho⟩
  ·rw[e2]at e;cases e
  ·rw[e2]at e;cases e
   exact no ho ht hs
 have nw:∀{x:AV},cP (n3<=·) x->∀id n,x=.sl id 0 n->¬SA L id:=fun hx id n e hs=>by
  have h1:=hx _ _ _ e
  have h2:=(sa _ hs).1
  have h3:=k.nn
  omega
 exact⟨f.obj k.o9 (no k.o9 (by decide)),f.obj k.Kh (no k.Kh (by decide)),f.obj k.AU (no k.AU (by decide)),
  ⟨DP (by decide) k.fa.o,k.fa.n,fun y hy=>⟨DP (by decide) (k.fa.qs y hy).1,(k.fa.qs y hy).2⟩,k.fa.pw⟩,⟨DP (by decide) k.fb.o,k.fb.n,fun y hy=>⟨DP (by decide) (k.fb.qs y hy).1,(k.fb.qs y hy).2⟩,k.fb.pw⟩,
  ⟨lA k.fw.fc f (nw k.nw.1),fun y hy=>lA (k.fw.qs y hy) f (nw (k.nw.2 y hy))⟩,k.nw,k.la,k.lb,k.nn.2,k.ea,k.eb,k.g,k.gb,k.len⟩
theorem Ks(rt:RT h xr rs)(hn:∀y∈rs,y.1.num<=9223372036854775807)(hR:∀h',R (.ret (B true)) h'):aE Pg 6 [xr] h M R:=by
 apply F6.aM
 unfold F6.yv F6.tQ
 refine⟨fun _=>False,fun _ h=>h.elim,Ot fun h1 f1=>?_⟩
 have ic:=rt.aU f1
 simp only[dq,zS,F6.A0,aj,zE,zD,zC,zH]
 unfold F6.vz
 refine⟨fun _=>False,fun _ h=>h.elim,?_⟩
 apply F8.aM
 simp only[F8.n2,F8.n1,ic.r.len.1,ic.r.len.2,zH,eU,gt_iff_lt]
 by_cases hv:(20000:Int)<rs.length
 ·have:=hR h1
  simpa[hv,F6.A3,F6.C8] using this
 ·have go:F6.pZ (fun id=>M id\/h.next<=id) (aJ Pg [.tmp 2] R) (aJ Pg [.tmp 2] R) (fun _ _ _=>False) (fun v h=>R (.cg v) h) xr h1:=by
   have hl:rs.length<=20000:=by omega
   have hW:∀id,h1.next<=id->(M id\/h.next<=id):=fun id hid=>.inr (zR f1.next hid)
   refine Wd hW ic hl fun id L h2 o=>?_
   refine OC hW ic hn hl o fun v9 v12 ru q b xa xb xw ya yb yw n1 n2 n3 h3 k=>?_
   refine R9 hW ic hl k.own fun h4 f4=>?_
   have ak:=k.ak f4
   unfold F6.n1
   refine di ak.o3 rfl fun _=>?_
   refine di ak.o4 rfl fun _=>?_
   refine di ak.o5 rfl fun _=>?_
   have e1:=k.top;have e2:=k.nn;have e3:=f4.next
   refine⟨fun j=>n1<=j,fun j hj _=>hW j (by have hj:n1<=j:=hj;omega),Oq ak ⟨by omega,by omega⟩ (fun j hj _=>hj) fun h5=>?_⟩
   simpa using hR h5
  simpa[hv,F6.A3,-F6.pZ] using go
end
end
end Go.Proofs.Ytjehibknlmehmaa
