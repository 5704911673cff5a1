/- Lemmas. -/
import Derived.Test.YtclenamodemnpaaGreatMg8
set_option linter.unusedSimpArgs false
set_option linter.unusedVariables false
namespace Go.Proofs
open Go.Vc Go.Proofs.Tryz
theorem x_ (h:Heap):h.le h:=Heap.le_refl h
theorem ww {a b c:Heap} (h:a.le b) (k:b.le c):a.le c:=Heap.le_trans h k
theorem w_ {α:Type} {l:List α} {i:Nat} (h:i<l.length):l[i]∈l:=List.getElem_mem h
theorem v_ {α:Type} {l:List α} {i:Nat} (h:i<l.length):l[i]?=some l[i]:=List.getElem?_eq_getElem h
theorem u_ {α:Type} {l:List α} {i:Nat} {a:α}:l.getD i a=l[i]?.getD a:=List.getD_eq_getElem?_getD
set_option maxRecDepth 100000
set_option maxHeartbeats 4000000
theorem qQ (us:List Value) (u:aU) (m:cB) (h:Heap) (p1 p2 p3 p4:Option Addr) (n1 n2 n3 n4 c1 c2 c3 c4:Nat) (hu:dL h us u) (hm:ee h [.int .i64 m.cls,.int .i64 m.eL,.slice p1 n1 c1,.int .i64 m.out,.int .i64 m.locals,.slice p2 n2 c2,.slice p3 n3 c3,.slice p4 n4 c4] m) (hV:HI u) (hM:Q9 u m) :
  bI prog 129 [.agg ⟨us⟩,.agg #[.int .i64 m.cls,.int .i64 m.eL,.slice p1 n1 c1,.int .i64 m.out,.int .i64 m.locals,.slice p2 n2 c2,.slice p3 n3 c3,.slice p4 n4 c4]] h
   λv h'=>h.le h'/\∃ b c A,v=.agg #[.int .i64 m.cls,.int .i64 m.eL,.slice p1 n1 c1,.int .i64 m.out,.int .i64 m.locals,.slice p2 n2 c2,.slice (some ⟨b,0,none⟩) A.length c,.slice p4 n4 c4]/\iB h h' b c A/\A.length=m.code.length/\qN u.J.length m.locals A:=by
 have iJ:=hu;have lq:=hM.len;have Rv:=λms m' hh (hl:h.le hh) hm' Js=>Fo us ms u m' hh (hu.le hl) hm' hV Js;obtain⟨p,cc,q,d,rfl,hcs,fM,jN,hl2⟩:=hu.form;obtain⟨a0,c0,s0,k0,hq,i1,i2,i3,i4,r1,r2,r3,r4⟩:=hm;simp only[List.cons.injEq,and_true,true_and]at hq;obtain⟨rfl,rfl,rfl,rfl⟩:=hq;obtain⟨_,_,e2,_,_⟩:=r2.len;simp only[Value.slice.injEq]at e2;obtain⟨_,e2,_⟩:=e2;subst e2;refine bS au func129 SX SY rfl ?_;conv=>whnf
 refine dI [] rfl (λb0 h1 uY e0 l1 g0=>?_);conv=>whnf
 have o0:cn 3 h1 (.slice (some ⟨b0,0,none⟩) 0 0) [] [b0]:=⟨by simp,.inr ⟨b0,0,[],_,rfl,by simp,by simpa using g0,by simp,rfl⟩⟩
 refine fm [2,3,4,5] [2,3,4] (λy:Nat × Heap × Option Addr × Nat × List (List Value) × List Nat=>y.1<=m.code.length/\h.le y.2.1/\cn 3 y.2.1 (.slice y.2.2.1 y.1 y.2.2.2.1) y.2.2.2.2.1 y.2.2.2.2.2/\y.2.2.2.2.1.length=y.1/\(∀ r∈y.2.2.2.2.1,An r)/\∀ b∈y.2.2.2.2.2,h b=none) (λy=>m.code.length-y.1)
  (λy=>([.l 2 0,.l 3 0,.l 4 0,.v (.int .i64 y.1)],
   [some [.slice p u.J.length cc,.slice q u.methods.length d],some [.int .i64 m.cls,.int .i64 m.eL,.slice p1 n1 c1,.int .i64 m.out,.int .i64 m.locals,.slice p2 m.code.length c2,.slice y.2.2.1 y.1 y.2.2.2.1,.slice p4 n4 c4],some [.int .i64 0,.int .i64 0,.slice none 0 0,.int .i64 0,.int .i64 0,.slice none 0 0,.slice none 0 0,.slice none 0 0]],y.2.1))
  (0,h1,some ⟨b0,0,none⟩,0,[],[b0]) ⟨by omega,l1,o0,rfl,by simp,by simpa using uY⟩ rfl ?_
 rintro⟨k,h2,pa,ca,aP,B⟩ ⟨hk,l2,o2,n2',yc,f2⟩;simp only at hk l2 o2 n2' yc f2 ⊢;conv=>whnf
 apply ax<;>intro g;all_goals conv=>whnf
 ·refine cE (jX h2) (λv h3 hh=>?_);have l3:=hh.1;refine⟨l3,hh.2.elim λb1 hh=>hh.elim λb2 hv=>?_⟩;subst hv;conv=>whnf
  refine cY (h0:=h) (xs:=aP) (ys:=[[.bool false,.slice (some ⟨b1,0,none⟩) 0 0,.slice (some ⟨b2,0,none⟩) 0 0]]) (B:=B) (o2.aG (cC.of_le l3 _)) f2 (ww l2 l3) rfl rfl (by simp) rfl rfl (by simp;omega) (by simp;omega) ?_;intro v4 h4 B4 w1 w2 w3 w4 w5;have ff:=w2.form;refine ff.elim λp5 ff=>ff.elim λc5 hf=>?_;have Xq:=hf.1;have R4:(aP++[[Value.bool false,.slice (some ⟨b1,0,none⟩) 0 0,.slice (some ⟨b2,0,none⟩) 0 0]]).length=k+1:=by simp[n2']
  rw[R4]at Xq;subst Xq;conv=>whnf
  refine aj ?_;conv=>whnf
  refine dm (k+1,h4,p5,c5,aP++[[.bool false,.slice (some ⟨b1,0,none⟩) 0 0,.slice (some ⟨b2,0,none⟩) 0 0]],B4) ⟨by simp only;omega,w1,w2,R4,λr hr=>?_,w3⟩ (by simp only;omega) rfl;rcases List.mem_append.1 hr with hr|hr
  ·exact yc r hr
  ·rw[List.mem_singleton.1 hr];exact⟨_,_,_,_,rfl⟩
 ·have hke:k=m.code.length:=by omega
  subst hke;obtain⟨b,rfl,a2⟩:=Ao o2 n2' lq.1 yc f2 l2;have Iq:(List.replicate m.code.length mO).length=m.code.length:=by simp
  have row:=a2.yP (by rw[Iq];omega);rw[Iq]at row;refine aD (Rv [.int .i64 m.cls,.int .i64 m.eL,.slice p1 n1 c1,.int .i64 m.out,.int .i64 m.locals,.slice p2 m.code.length c2,.slice (some ⟨b,0,none⟩) m.code.length ca,.slice p4 n4 c4] {m with aL:=List.replicate m.code.length mO} h2 l2 ⟨_,_,_,_,rfl,i1,i2,i3,i4,r1.le l2,r2.le l2 (λ_ _ hx=>hx),row,r4.le l2 (λ_ _ hx=>hx)⟩ ⟨hM.head,hM.len,hM.code,hM.cat⟩) (λv h3 hh=>?_);have l3:=hh.1;refine hh.2.elim λb3 hh=>hh.elim λMF hh=>hh.elim λA hh=>?_;have hv:=hh.1;subst hv;conv=>whnf
  have a3:=hh.2.1;exact⟨ww l2 l3,b3,MF,A,rfl,⟨ww l2 a3.le,bp l2 a3.fr,a3.row⟩,hh.2.2.1,hh.2.2.2⟩
def since (g0 g:Heap):Heap:=λx=>match g0 x with
 | none=>g x
 | some _=>none
theorem uU {g0 g:Heap} {x:Nat} {o:Obj} (h:g0 x=some o):since g0 g x=none:=by unfold since;rw[h]
theorem eP {g0 g:Heap} {x:Nat} (h:g0 x=none):since g0 g x=g x:=by unfold since;rw[h]
theorem dM {g0 g:Heap} {x:Nat} {o:Obj} (h:since g0 g x=some o):g0 x=none/\g x=some o:=by
 cases e:g0 x with
 | none=>rw[eP e]at h;exact⟨rfl,h⟩
 | some y=>rw[uU e]at h;cases h
theorem aJ (g0 g:Heap):(since g0 g).le g:=λx o hx=>(dM hx).2
theorem bW {g g':Heap} (g0:Heap) (hl:g.le g'):(since g0 g).le (since g0 g'):=λx o hx=>by
 obtain⟨h1,h2⟩:=dM hx;rw[eP h1];exact hl x o h2
theorem jZ {g0 g:Heap} {B:List Nat} (hB:∀ b∈B,g0 b=none):cC g (since g0 g) B:=λb U o ho=>by rw[eP (hB b U)];exact ho
theorem pM {g0 g:Heap} {b:Nat} (U:g b=none):since g0 g b=none:=by
 unfold since;cases h:g0 b<;>simp[h,U]
theorem lN {g0 g:Heap} {b:Nat} {o:Obj} (U:g0 b=none):since g0 (g.set b o)=(since g0 g).set b o:=by
 funext x
 unfold since;simp only[Heap.set];by_cases e:x=b
 ·subst e;simp[U]
 ·simp[e]
theorem Fz {P:Program} {f:FuncId} {args:List Value} {g0 g:Heap} {R:Value->Heap->Prop} (h0:g0.le g) (hc:bI P f args (since g0 g) R) :
  bI P f args g λv g'=>(∀ b o,g0 b=some o->g' b=some o)/\R v (since g0 g'):=by
 intro w hv;refine(hc w (λb' o' hx=>hv b' o' (aJ g0 g b' o' hx))).mono ?_;rintro e w' ⟨h1,m,hm⟩;have iS:∀ b o,g0 b=some o->b < w.heap.size:=λb o hx=>ey (hv b o (h0 b o hx));have Om:∀ b o,g0 b=some o->h1 b=none:=λb o XD=>by
  cases hx:h1 b with
  | none=>rfl
  | some x =>
   rcases m.xd b (by rw[hx];simp)with h2|h2
   ·exact absurd (uU XD) h2
   ·have:=iS b o XD;omega
 let h':Heap:=λx=>match g0 x with
  | some o=>some o
  | none=>h1 x
 have fI:∀ x o,g0 x=some o->h' x=some o:=λx o hx=>by simp[h',hx]
 have eU:∀ x,g0 x=none->h' x=h1 x:=λx hx=>by simp[h',hx]
 have hh:since g0 h'=h1:=by
  funext x
  cases e:g0 x with
  | some o=>rw[uU e,Om x o e]
  | none=>rw[eP e,eU x e]
 have mv:cP g w h' w':=by
  refine⟨λx y hx=>?_,λx hx hn=>?_,λx hx=>?_,m.size,m.fz,m.out⟩
  ·cases e:g0 x with
   | some o =>
    have hk:=m.aG x (iS x o e) (uU e);rw[fI x o e]at hx;rw[hk,<-hx];exact hv x o (h0 x o e)
   | none =>
    rw[eU x e]at hx;exact m.view x y hx
  ·have W3:since g0 g x=none:=pM hn;exact m.aG x hx W3
  ·cases e:g0 x with
   | some o=>left;rw[h0 x o e];simp
   | none =>
    rw[eU x e]at hx;rcases m.xd x hx with h2|h2
    ·left;rwa [eP e]at h2
    ·exact .inr h2
 refine⟨h',mv,?_⟩;cases e with
 | returned v=>exact⟨fI,by rw[hh];exact hm⟩
 | panicked c=>exact hm.elim
 | outgrown=>exact hm.elim
theorem DJ {g0 g g':Heap} (h:(since g0 g).le (since g0 g')) (h0:∀ b o,g0 b=some o->g' b=some o) (hl:g0.le g):g.le g':=λx o hx=>by
 cases e:g0 x with
 | some y =>
  have:=hl x y e;rw[hx]at this;rw[h0 x y e,this]
 | none=>exact(dM (h x o (by rw[eP e];exact hx))).2
theorem ND {P:Program} {f:FuncId} {args:List Value} {g0 g:Heap} {bb:Nat} {vb:Value} {p:Int} {R:Value->Heap->Prop} {K:Value->Heap->Prop} {E:List PanicEntry->Heap->Prop} (r:bD g bb vb p) (h0:g0.le g) (hc:bI P f args (since g0 g) λv G'=>(since g0 g).le G'/\R v G')
  (hk:∀ v g',g.le g'->bD g' bb vb p->R v (since g0 g')->K v (cN g' bb vb p)):Go.Vc.Call P f args (cN g bb vb p) K E :=
 Ns r (R:=λv g'=>R v (since g0 g')) (bI.mono (Fz h0 hc) λv g' hh=>⟨DJ hh.2.1 hh.1 h0,hh.2.2⟩) hk
def NF (g:Heap):Prop:=∀(b:Nat) (cs:Array Value) (t:TypeId) (z:Nat × Nat),g b=some (Obj.cells cs t z)->z=(0,0)
theorem cn.BL {sz:Nat} {α:Type} {f:α->List Value} {Q:Heap->List Value->α->Prop} {h:Heap} {v:Value} {l:List α} {B:List Nat} (ho:cn sz h v (l.map f) B) (hl:l.length<=140737488351232) (hq:∀ a∈l,Q h (f a) a):Row sz Q h v l:=by
 obtain⟨hx,ho⟩:=ho;rcases ho with ⟨rfl,hn,_⟩|⟨b,c,rest,t,rfl,gG,U,hlen,_⟩
 ·have:l=[]:=by simpa using hn
  subst this;exact⟨by simp,none,0,rfl,by simp,.inl rfl⟩
 ·refine⟨hl,_,c,by simp,by simpa using gG,.inr ⟨b,0,rfl,λi x hi=>?_⟩⟩;have hm:x∈l:=List.mem_of_getElem? hi;obtain⟨cG,Ol⟩:=List.getElem?_eq_some_iff.1 hi;refine⟨f x,?_,hq x hm⟩;have BW:l.map f=(l.take i).map f++f x::(l.drop (i+1)).map f:=by
   rw[<-Ol,<-List.map_cons,<-List.map_append,<-List.drop_eq_getElem_cons cG,List.take_append_drop]
  have fV:((l.take i).map f).flatten.length=i*sz:=by
   rw[bQ (sz:=sz)]
   ·rw[List.length_map,List.length_take,Nat.min_eq_left (by omega)]
   ·intro y hy;exact hx y (by rw[BW];exact List.mem_append.2 (.inl hy))
  have xj:(f x).length=sz:=hx _ (List.mem_map_of_mem hm);rw[BW]at U hlen;have:=bP U sz (0+i*sz) (by
   simp only[List.flatten_append,List.flatten_cons,List.length_append]at hlen ⊢;omega)
  rw[this];congr 1
  have e:((List.map f (List.take i l)++f x::List.map f (List.drop (i+1) l)).flatten++rest)=(List.map f (List.take i l)).flatten++(f x++((List.map f (List.drop (i+1) l)).flatten++rest)):=by simp
  rw[e,Nat.zero_add,<-fV,List.drop_left,<-xj,List.take_left]
theorem cn.Rw {sz:Nat} {α:Type} {Q:Heap->List Value->α->Prop} {h:Heap} {v:Value} {aP:List (List Value)} {A:List α} {B:List Nat} (ho:cn sz h v aP B) (hn:aP.length=A.length) (hl:A.length<=140737488351232) (hq:∀ i (h1:i < aP.length) (h2:i < A.length),Q h aP[i] A[i]):Row sz Q h v A:=by
 obtain⟨hx,⟨rfl,e,_⟩|⟨b,c,rest,t,rfl,hc,U,uo,_⟩⟩:=ho
 ·subst e;have:A=[]:=List.eq_nil_of_length_eq_zero (by simpa using hn.symm);subst this;exact⟨by simp,none,0,rfl,by simp,.inl rfl⟩
 refine⟨hl,_,c,by rw[hn],by omega,.inr ⟨b,0,rfl,λi x hi=>?_⟩⟩;obtain⟨h2,rfl⟩:=List.getElem?_eq_some_iff.1 hi;have h1:i < aP.length:=by rw[hn];exact h2
 refine⟨aP[i],?_,hq i h1 h2⟩;have fV:(aP.take i).flatten.length=i*sz:=by
  rw[bQ (sz:=sz)]
  ·rw[List.length_take,Nat.min_eq_left (by omega)]
  ·intro y hy;exact hx y (List.mem_of_mem_take hy)
 have BW:aP.flatten++rest=(aP.take i).flatten++(aP[i]++((aP.drop (i+1)).flatten++rest)):=by
  have e:aP=aP.take i++aP[i]::aP.drop (i+1):=by rw[<-List.drop_eq_getElem_cons h1,List.take_append_drop]
  have e2:=congrArg List.flatten e;rw[e2];simp only[List.flatten_append,List.flatten_cons,List.append_assoc]
 have xj:aP[i].length=sz:=hx _ (w_ _);rw[BW]at U uo;rw[bP U sz (0+i*sz) (by simp only[List.length_append]at uo ⊢;omega),Nat.zero_add,<-fV,List.drop_left,<-xj,List.take_left]
theorem j5 {h:Heap} {b:Nat} {o:Obj} {A:List Nat} (hA:b ∉ A):cC h (h.set b o) A:=λc hc o' ho=>by
 have:c≠b:=by rintro rfl;exact hA hc
 simp only[Heap.set,this,if_false];exact ho
def oy (t:Int):Prop:=-1000<=t/\t<=1000
structure Cd (gB g:Heap) (l1:List Int) (p1:Option Addr) (c1:Nat) (B1:List Nat) (l2:List Int) (p2:Option Addr) (c2:Nat) (B2:List Nat):Prop where
 le:gB.le g
 o1:dV g (.slice p1 l1.length c1) l1 B1
 o2:dV g (.slice p2 l2.length c2) l2 B2
 nd:Nd (B1++B2)
 fr:∀ b∈B1++B2,gB b=none
 t1:∀ t∈l1,oy t
 t2:∀ t∈l2,oy t
section
variable {gB g g':Heap} {l1 l2:List Int} {p1 p2:Option Addr} {c1 c2:Nat} {B1 B2:List Nat} {bb:Nat} {vb:Value} {q0 q:Int}
theorem Cd.start (g:Heap):Cd g g [] none 0 [] [] none 0 [] :=
 ⟨x_ g,⟨by simp,.inl ⟨rfl,rfl,rfl⟩⟩,⟨by simp,.inl ⟨rfl,rfl,rfl⟩⟩,λa=>by simp,by simp,by simp,by simp⟩
theorem Cd.swap (s:Cd gB g l1 p1 c1 B1 l2 p2 c2 B2):Cd gB g l2 p2 c2 B2 l1 p1 c1 B1 :=
 ⟨s.le,s.o2,s.o1,s.nd.perm λa=>by simp only[List.count_append];omega,λb U=>s.fr b (by simp at U ⊢;grind),s.t2,s.t1⟩
theorem Cd.in (s:Cd gB g l1 p1 c1 B1 l2 p2 c2 B2):∀ b∈B1++B2,∃ o,g b=some o:=λb U=>(List.mem_append.1 U).elim (s.o1.in b) (s.o2.in b)
theorem Cd.Dv {el:TypeId} {n m:Nat} {vs:List Value} {K:Value->Heap->Prop} (s:Cd gB g l1 p1 c1 B1 l2 p2 c2 B2) (r0:bD gB bb vb q0) (r:bD g bb vb q) (k:List Int) (hn:n=l1.length) (hm:m=k.length) (hv:vs=k.map (Value.int .i64)) (hs:l1.length+k.length<=1000000) (Ef:∀ t∈k,oy t)
  (hk:∀ p' c' g' B',Cd gB g' (l1++k) p' c' B' l2 p2 c2 B2->bD g' bb vb q->K (.slice p' (l1++k).length c') (cN g' bb vb q)):App 8 1 [.int .i64 0] el (cN g bb vb q) p1 n c1 m vs K:=by
 subst hn hv;have fI:=s.in;refine xq (k:=k) r0 r s.o1 (λb U=>s.fr b (by simp[U])) s.le hm hs (λp' c' g' B' k1 k2 k3 k4 ev=>?_);refine hk p' c' g' B' ⟨k1,k3,s.o2.aG (ev.aG λb U hc=>vW s.nd b hc U),?_,λb U=>?_,λt ht=>?_,s.t2⟩ k2
 ·have:=Nd.swap (A:=B2) (X:=B1) (X':=B') (s.nd.perm λa=>by simp only[List.count_append];omega) k3.nd (λb U=>(ev.new b U).imp id λhn hm=>by
   obtain⟨o,ho⟩:=fI b (by simp[hm]);rw[hn]at ho;cases ho)
  exact this.perm λa=>by simp only[List.count_append];omega
 ·rcases List.mem_append.1 U with h1|h1
  ·exact k4 b h1
  ·exact s.fr b (by simp[h1])
 ·rcases List.mem_append.1 ht with h1|h1
  ·exact s.t1 t h1
  ·exact Ef t h1
theorem Cd.Ff {el:TypeId} {n m:Nat} {vs:List Value} {K:Value->Heap->Prop} (s:Cd gB g l1 p1 c1 B1 l2 p2 c2 B2) (r0:bD gB bb vb q0) (r:bD g bb vb q) (k:List Int) (hn:n=l2.length) (hm:m=k.length) (hv:vs=k.map (Value.int .i64)) (hs:l2.length+k.length<=1000000) (Ef:∀ t∈k,oy t)
  (hk:∀ p' c' g' B',Cd gB g' l1 p1 c1 B1 (l2++k) p' c' B'->bD g' bb vb q->K (.slice p' (l2++k).length c') (cN g' bb vb q)):App 8 1 [.int .i64 0] el (cN g bb vb q) p2 n c2 m vs K :=
 s.swap.Dv r0 r k hn hm hv hs Ef λp' c' g' B' h1 h2=>hk p' c' g' B' h1.swap h2
theorem yZ {g0:Heap} {v:Value} {l:List Int} {B:List Nat} (h0:g0.le gB) (ho:dV g v l B) (hf:∀ b∈B,gB b=none) (ht:∀ t∈l,oy t) (hl:l.length<=1000000):cT (since g0 g) v l :=
 cn.BL (ho.aG (jZ λb U=>bp h0 (hf b U))) (by omega) λt h=>⟨rfl,by have:=ht t h;unfold oy at this;unfold cL;omega⟩
def XH (g0 g:Heap) (v:Value):Prop:=∃(tv:Bool) (p1:Option Addr) (n1 c1:Nat) (p2:Option Addr) (n2 c2:Nat) (l1 l2:List Int),v=.agg #[.bool tv,.slice p1 n1 c1,.slice p2 n2 c2]/\cT (since g0 g) (.slice p1 n1 c1) l1/\cT (since g0 g) (.slice p2 n2 c2) l2
theorem Cd.Rk {g0:Heap} (s:Cd gB g l1 p1 c1 B1 l2 p2 c2 B2) (h0:g0.le gB) (tv:Bool) (n1:l1.length<=1000000) (n2:l2.length<=1000000):XH g0 g (.agg #[.bool tv,.slice p1 l1.length c1,.slice p2 l2.length c2]) :=
 ⟨tv,_,_,_,_,_,_,l1,l2,rfl,yZ h0 s.o1 (λb U=>s.fr b (by simp[U])) s.t1 n1,yZ h0 s.o2 (λb U=>s.fr b (by simp[U])) s.t2 n2⟩
end
theorem y5 {g0 g:Heap} {bb:Nat} {vb:Value} {p:Int} (n locals:Int) (r:bD g bb vb p) (hp:p<=80000000) (h0:g0.le g) (hn:1<=n/\n<=100) (hl:locals<=100) :
  Dr prog 74 [.pointer (some ⟨bb,0,none⟩),.int .i64 n,.int .i64 locals] g bb vb p 700 λg' v=>XH g0 g' v:=by
 have O5:=λg' q (r':bD g' bb vb q) hq=>rP n r' hq (by omega:1<=n/\n<=1000);refine bS au func74 G74 Xa rfl ?_;conv=>whnf
 refine fm [0,1,2,6,7,8] [6,7] (λy:Nat × (Heap × Int) × (List Int × Option Addr × Nat × List Nat)=>(y.1=0\/(y.1:Int)<=locals)/\y.2.2.1.length=y.1/\bD y.2.1.1 bb vb y.2.1.2/\p<=y.2.1.2/\y.2.1.2<=p+4*(y.1:Int)/\Cd g y.2.1.1 y.2.2.1 y.2.2.2.1 y.2.2.2.2.1 y.2.2.2.2.2 [] none 0 []) (λy=>locals.toNat-y.1)
  (λy=>([.v (.pointer (some ⟨bb,0,none⟩)),.v (.int .i64 n),.v (.int .i64 locals),.l 6 0,.l 7 0,.v (.int .i64 y.1)],[some [.bool false,.slice none 0 0,.slice none 0 0],some [.bool true,.slice y.2.2.2.1 y.1 y.2.2.2.2.1,.slice none 0 0]],cN y.2.1.1 bb vb y.2.1.2))
  (0,(g,p),([],none,0,[])) ⟨.inl rfl,rfl,r,by simp only;omega,by simp only;omega,Cd.start g⟩ rfl ?_
 rintro⟨i,⟨g1,q1⟩,⟨l1,p1,c1,B1⟩⟩ ⟨hi,n1,r1,p7,rV,s1⟩;simp only at hi n1 r1 p7 rV s1 ⊢;subst n1;conv=>whnf
 apply ax<;>intro gi;all_goals conv=>whnf
 ·refine iC r1 (O5 _ _ r1 (by omega)) (λv g2 q2 l2 r2 q20 q21 hA=>?_);obtain⟨rfl,t,rfl,t0,t1⟩:=hA;conv=>whnf
  refine s1.Dv r r2 [t] rfl rfl rfl (by simp;omega) (λx hx=>by rw[List.mem_singleton.1 hx];unfold oy;omega) (λp2 c2 g3 B2 s3 r3=>?_);conv=>whnf
  refine aj ?_;conv=>whnf
  exact dm (l1.length+1,(g3,q2),(l1++[t],p2,c2,B2)) ⟨.inr (by simp only;omega),by simp,r3,by simp only;omega,by simp only;omega,s3⟩ (by simp only;omega) (by simp only[List.length_append,List.length_singleton];rfl)
 ·have jN:l1.length<=100:=by omega
  refine bF r1 (by omega) (λk k0 k1 k2 r2=>?_);conv=>whnf
  refine fm [0,1,6,7,9] [6,7] (λy:Int × (Heap × Int) × (List Int × Option Addr × Nat × List Nat)=>0<=y.1/\(y.2.2.1.length:Int)+y.1<=4/\bD y.2.1.1 bb vb y.2.1.2/\p<=y.2.1.2/\y.2.1.2<=p+450-6*y.1/\Cd g y.2.1.1 l1 p1 c1 B1 y.2.2.1 y.2.2.2.1 y.2.2.2.2.1 y.2.2.2.2.2) (λy=>y.1.toNat)
   (λy=>([.v (.pointer (some ⟨bb,0,none⟩)),.v (.int .i64 n),.l 6 0,.l 7 0,.v (.int .i64 y.1)],[some [.bool false,.slice none 0 0,.slice none 0 0],some [.bool true,.slice p1 l1.length c1,.slice y.2.2.2.1 y.2.2.1.length y.2.2.2.2.1]],cN y.2.1.1 bb vb y.2.1.2))
   (k,(g1,q1+1),([],none,0,[])) ⟨k0,by simp;omega,r2,by simp only;omega,by simp only;omega,s1⟩ rfl ?_
  clear r2 s1 k0 k1 k2;rintro⟨k,⟨g3,q3⟩,⟨l2,p2,c2,B2⟩⟩ ⟨k0,k1,r3,vw,hq3,s3⟩;simp only at k0 k1 r3 vw hq3 s3 ⊢;conv=>whnf
  apply ax<;>intro gk;all_goals conv=>whnf
  ·refine iC r3 (O5 _ _ r3 (by omega)) (λv g4 q4 l4 r4 XI XJ hA=>?_);obtain⟨rfl,t,rfl,t0,t1⟩:=hA;conv=>whnf
   have fin:∀(x q5:Int),oy x->bD g4 bb vb q5->q4<=q5->q5<=q4+1->True:=λ_ _ _ _ _ _=>trivial;apply ax<;>intro g5;all_goals conv=>whnf
   ·refine bF r4 (by omega) (λz z0 z1 z2 r5=>?_);conv=>whnf
    apply ax<;>intro g6;all_goals conv=>whnf
    ·refine s3.Ff r r5 [1] rfl rfl rfl (by simp;omega) (λx hx=>by rw[List.mem_singleton.1 hx];unfold oy;omega) (λp5 c5 g6 B5 s6 r6=>?_);conv=>whnf
     refine aj ?_;conv=>whnf
     exact dm (k-1,(g6,q4+1),(l2++[1],p5,c5,B5)) ⟨by simp only;omega,by simp;omega,r6,by simp only;omega,by simp only;omega,s6⟩ (by simp only;omega) (by simp only[List.length_append,List.length_singleton];rfl)
    ·refine s3.Ff r r5 [t] rfl rfl rfl (by simp;omega) (λx hx=>by rw[List.mem_singleton.1 hx];unfold oy;omega) (λp5 c5 g6 B5 s6 r6=>?_);conv=>whnf
     refine aj ?_;conv=>whnf
     exact dm (k-1,(g6,q4+1),(l2++[t],p5,c5,B5)) ⟨by simp only;omega,by simp;omega,r6,by simp only;omega,by simp only;omega,s6⟩ (by simp only;omega) (by simp only[List.length_append,List.length_singleton];rfl)
   ·refine s3.Ff r r4 [t] rfl rfl rfl (by simp;omega) (λx hx=>by rw[List.mem_singleton.1 hx];unfold oy;omega) (λp5 c5 g6 B5 s6 r6=>?_);conv=>whnf
    refine aj ?_;conv=>whnf
    exact dm (k-1,(g6,q4),(l2++[t],p5,c5,B5)) ⟨by simp only;omega,by simp;omega,r6,by simp only;omega,by simp only;omega,s6⟩ (by simp only;omega) (by simp only[List.length_append,List.length_singleton];rfl)
  ·have hl2:l2.length<=100:=by omega
   refine bF r3 (by omega) (λz z0 z1 z2 r4=>?_);conv=>whnf
   apply ax<;>intro g5;all_goals conv=>whnf
   ·refine Ns r4 (jX g3) (λv g6 l6 r6 hh=>?_);obtain⟨b1,b2,rfl⟩:=hh;conv=>whnf
    exact⟨_,_,rfl,ww s3.le l6,r6.free,by omega,by omega,false,_,_,_,_,_,_,[],[],rfl,hY _ _ _,hY _ _ _⟩
   apply ax<;>intro g6;all_goals conv=>whnf
   ·exact⟨_,_,rfl,s3.le,r4.free,by omega,by omega,s3.Rk h0 false (by omega) (by omega)⟩
   apply ax<;>intro g7;all_goals conv=>whnf
   ·refine s3.Dv r r4 [1] rfl rfl rfl (by simp;omega) (λx hx=>by rw[List.mem_singleton.1 hx];unfold oy;omega) (λp5 c5 g8 B5 s8 r8=>?_);conv=>whnf
    exact⟨_,_,rfl,s8.le,r8.free,by omega,by omega,s8.Rk h0 true (by simp;omega) (by omega)⟩
   apply ax<;>intro g8;all_goals conv=>whnf
   ·refine s3.Ff r r4 [1,1,1,1] rfl rfl rfl (by simp;omega) (λx hx=>by simp at hx;subst hx;unfold oy;omega) (λp5 c5 g8 B5 s8 r8=>?_);conv=>whnf
    exact⟨_,_,rfl,s8.le,r8.free,by omega,by omega,s8.Rk h0 true (by omega) (by simp;omega)⟩
   ·exact⟨_,_,rfl,s3.le,r4.free,by omega,by omega,s3.Rk h0 true (by omega) (by omega)⟩
open Go.Vc Go.Proofs.Tryz
set_option maxRecDepth 100000
set_option maxHeartbeats 4000000
def DK (c:dR):Prop:=cL c.bN/\c.fields.length<=1000/\∀ t∈c.fields,cL t
theorem cj.bd {cs:List dR} (ok:cj cs):∀ c∈cs,DK c:=λc hc=>by
 obtain⟨i,hi,rfl⟩:=List.mem_iff_getElem.1 hc;obtain⟨f1,f2,f3,f4,f5⟩:=ok.2.2 i hi;have h5:=ok.2.1;refine⟨?_,by omega,λt ht=>?_⟩
 ·unfold cL;have:i=0\/i=1\/1 < i:=by omega
  rcases this with e|e|e
  ·have:=f2 e;omega
  ·have:=f3 e;omega
  ·have:=f4 e;omega
 ·have:=f1 t ht;unfold cR at this;unfold cL;omega
theorem lO {g0 g:Heap} {v:Value} {cs:List dR} {B:List Nat} (ho:eE ox 2 g v cs B) (hf:∀ b∈B,g0 b=none) (U:∀ c∈cs,DK c) (hn:cs.length<=1000):fo (since g0 g) v cs :=
 (ho.aG sC (jZ hf)).row (by omega) λx a C ha hR=>by
  obtain⟨w,e,o⟩:=hR;have h1:=U a ha;exact⟨w,e,h1.1,cn.BL o (by have:=h1.2.1;omega) λt ht=>⟨rfl,h1.2.2 t ht⟩⟩
theorem Row.first {α:Type} {sz:Nat} {R:Heap->List Value->α->Prop} {h:Heap} {p:Option Addr} {n c:Nat} {l:List α} (hr:Row sz R h (.slice p n c) l) {m:Nat} (hm:m<=l.length):Row sz R h (.slice p m c) (l.take m):=by
 obtain⟨h1,p',c',he,h2,h3⟩:=hr;simp only[Value.slice.injEq]at he;obtain⟨rfl,rfl,rfl⟩:=he;have iS:(l.take m).length=m:=by rw[List.length_take];omega
 refine⟨by omega,p,c,by rw[iS],by omega,?_⟩;rcases h3 with rfl|⟨b,off,rfl,hx⟩
 ·exact .inl (by simp)
 ·refine .inr ⟨b,off,rfl,λi x hi=>?_⟩;have cG:i < m:=by have:=(List.getElem?_eq_some_iff.1 hi).1;omega
  rw[List.getElem?_take_of_lt cG]at hi;exact hx i x hi
def BM (g0 g:Heap) (v:Value):Prop:=∃(p:Option Addr) (n c:Nat) (cs:List dR),v=.slice p n c/\fo (since g0 g) (.slice p n c) cs
theorem NG {g:Heap} {bb:Nat} {vb:Value} {p:Int} {K:Value->Heap->Prop} {E:List PanicEntry->Heap->Prop} (r:bD g bb vb p) (hp:p<=1000000000)
  (k0:bD g bb vb (p+1)->K (.int .i64 0) (cN g bb vb (p+1))) (k1:bD g bb vb (p+1)->K (.int .i64 1) (cN g bb vb (p+1))) (k2:bD g bb vb (p+1)->K (.int .i64 2) (cN g bb vb (p+1))) (k3:bD g bb vb (p+1)->K (.int .i64 3) (cN g bb vb (p+1))) :
  Go.Vc.Call prog 36 [.pointer (some ⟨bb,0,none⟩),.int .i64 4] (cN g bb vb p) K E :=
 bF r hp λs s0 s1 _ r1=>by
  have hs:s=0\/s=1\/s=2\/s=3:=by omega
  rcases hs with rfl|rfl|rfl|rfl
  ·exact k0 r1
  ·exact k1 r1
  ·exact k2 r1
  ·exact k3 r1
theorem K9 {g0 g:Heap} {bb:Nat} {vb:Value} {p:Int} (r:bD g bb vb p) (hp:p<=70000000) (h0:g0.le g) :
  Dr prog 130 [.pointer (some ⟨bb,0,none⟩)] g bb vb p 120 λg' v=>BM g0 g' v:=by
 refine bS au func130 Xd Rd rfl ?_;conv=>whnf
 refine iC r (uQ r (by omega)) (λv g1 q1 l1 r1 YT YU hA=>?_);obtain⟨cs,B,oc,O6,vX,ok⟩:=hA;have f:=oc.form;obtain⟨cp,cc,rfl,L9⟩:=f;have OI:=ok.1;have hn5:=ok.2.1;have plain:BM g0 g1 (.slice cp cs.length cc):=⟨_,_,_,cs,rfl,lO oc (λb U=>bp h0 (vX b U)) ok.bd (by omega)⟩
 conv=>whnf
 refine bF r1 (by omega) (λy y0 y1 y2 r2=>?_);conv=>whnf
 apply ax<;>intro ga;all_goals conv=>whnf
 ·exact⟨_,_,rfl,l1,r2.free,by omega,by omega,plain⟩
 refine bF r2 (by omega) (λx x0 x1 x2 r3=>?_);have hx:x.toNat < cs.length:=by omega
 conv=>whnf
 refine bF r3 (by omega) (λz z0 z1 z2 r4=>?_);conv=>whnf
 apply ax<;>intro gb;all_goals conv=>whnf
 ·refine bF r4 (by omega) (λs s0 s1 s2 r5=>?_);conv=>whnf
  have sO:cs=cs.take x.toNat++cs[x.toNat]::cs.drop (x.toNat+1):=by rw[<-List.drop_eq_getElem_cons hx,List.take_append_drop]
  have NH:eE ox 2 g1 (.slice cp cs.length cc) (cs.take x.toNat++cs[x.toNat]::cs.drop (x.toNat+1)) B:=by rw[<-sO];exact oc
  have f:=NH.at sC;obtain⟨b,c,xr,pre,post,t,Bo,Bi,e,L9,U,fV,xj,hR,iK,eF⟩:=f;simp only[Value.slice.injEq]at e;obtain⟨hq,_,BN⟩:=e;subst hq BN;obtain⟨w,rfl,ow⟩:=hR;have f:=ow.form;obtain⟨wp,wc,rfl,NI⟩:=f;have BV:(cs[x.toNat].fields.map bO).length=cs[x.toNat].fields.length:=by simp
  rw[BV]at U ow NI;have kB:pre.length=x.toNat*2:=by rw[fV,List.length_take,Nat.min_eq_left (by omega)]
  have dy:∀ y,y∈b::Bo++Bi->y∈B:=λy hy=>by
   have h1:=List.count_pos_iff.2 hy;refine List.count_pos_iff.1 ?_;rw[iK y];exact h1
  have hnd:Nd (b::Bo++Bi):=O6.perm λa=>(iK a).symm;have O7:b ∉ Bo:=λhm=>by have:=hnd b;have:=List.count_pos_iff.2 hm;simp only[List.cons_append,List.count_cons,List.count_append,beq_self_eq_true,if_true]at *;omega
  have O8:b ∉ Bi:=λhm=>by have:=hnd b;have:=List.count_pos_iff.2 hm;simp only[List.cons_append,List.count_cons,List.count_append,beq_self_eq_true,if_true]at *;omega
  have La:∀ y∈Bo,y ∉ Bi:=λy h1 h2=>by have:=hnd y;have:=List.count_pos_iff.2 h1;have:=List.count_pos_iff.2 h2;simp only[List.cons_append,List.count_cons,List.count_append]at *;omega
  have NJ:g0 b=none:=bp h0 (vX b (dy b (by simp)));have NK:∀ y∈Bo,g0 y=none:=λy hy=>bp h0 (vX y (dy y (by simp[hy])));have XK:∀ y∈Bi,g0 y=none:=λy hy=>bp h0 (vX y (dy y (by simp[hy])));have done:∀(g':Heap) (x':List Value) (a':dR) (B':List Nat),g' b=some (.cells (pre++x'++post).toArray t (0,0))->x'.length=2->ox g' x' a' B'->cC g1 g' Bo->DK a'->(∀ y∈B',g0 y=none)->BM g0 g' (.slice (some ⟨b,0,none⟩) cs.length cc):=λg' x' a' B' h1 h2 h3 h4 h5 h6=>by
   obtain⟨B2,o2,c2⟩:=eF g' x' a' B' h1 h2 h3 h4;refine⟨_,_,_,_,rfl,lO o2 (λy hy=>?_) (λz hz=>?_) (by simp;omega)⟩
   ·have h7:=List.count_pos_iff.2 hy;have h8:y∈b::Bo++B':=by
     refine List.count_pos_iff.1 ?_;rw[<-c2 y];exact h7
    simp only[List.cons_append,List.mem_cons,List.mem_append]at h8;rcases h8 with rfl|h8|h8
    ·exact NJ
    ·exact NK y h8
    ·exact h6 y h8
   ·rcases List.mem_append.1 hz with h7|h7
    ·exact ok.bd z (List.mem_of_mem_take h7)
    ·rcases List.mem_cons.1 h7 with rfl|h7
     ·exact h5
     ·exact ok.bd z (List.mem_of_mem_drop h7)
  have Ma:=ok.bd _ (w_ hx);have Df:g b=none:=vX b (dy b (by simp));refine aj ?_;conv=>whnf
  refine aq ?_;conv=>whnf
  refine ptr ?_;conv=>whnf
  refine mQ r5.free U (by simp;omega) (nu (i:=0) (by simp only;omega) (by simp)) ?_;conv=>whnf
  refine⟨_,_,rfl,Heap.aM l1 Df,?_,by omega,by omega,done _ [.int .i64 (s-1),.slice wp _ wc] ⟨s-1,cs[x.toNat].fields⟩ Bi (cZ _ _ _) rfl ⟨_,rfl,ow.aG (j5 O8)⟩ (j5 O7) ⟨by unfold cL;simp only;omega,Ma.2⟩ XK⟩;have cD:bb≠b:=λe=>by have:=r5.free;rw[e,U]at this;cases this
  simp[Heap.set,cD,r5.free]
 apply ax<;>intro gc;all_goals conv=>whnf
 ·skip
  have sO:cs=cs.take x.toNat++cs[x.toNat]::cs.drop (x.toNat+1):=by rw[<-List.drop_eq_getElem_cons hx,List.take_append_drop]
  have NH:eE ox 2 g1 (.slice cp cs.length cc) (cs.take x.toNat++cs[x.toNat]::cs.drop (x.toNat+1)) B:=by rw[<-sO];exact oc
  have f:=NH.at sC;obtain⟨b,c,xr,pre,post,t,Bo,Bi,e,L9,U,fV,xj,hR,iK,eF⟩:=f;simp only[Value.slice.injEq]at e;obtain⟨hq,_,BN⟩:=e;subst hq BN;obtain⟨w,rfl,ow⟩:=hR;have f:=ow.form;obtain⟨wp,wc,rfl,NI⟩:=f;have BV:(cs[x.toNat].fields.map bO).length=cs[x.toNat].fields.length:=by simp
  rw[BV]at U ow NI;have kB:pre.length=x.toNat*2:=by rw[fV,List.length_take,Nat.min_eq_left (by omega)]
  have dy:∀ y,y∈b::Bo++Bi->y∈B:=λy hy=>by
   have h1:=List.count_pos_iff.2 hy;refine List.count_pos_iff.1 ?_;rw[iK y];exact h1
  have hnd:Nd (b::Bo++Bi):=O6.perm λa=>(iK a).symm;have O7:b ∉ Bo:=λhm=>by have:=hnd b;have:=List.count_pos_iff.2 hm;simp only[List.cons_append,List.count_cons,List.count_append,beq_self_eq_true,if_true]at *;omega
  have O8:b ∉ Bi:=λhm=>by have:=hnd b;have:=List.count_pos_iff.2 hm;simp only[List.cons_append,List.count_cons,List.count_append,beq_self_eq_true,if_true]at *;omega
  have La:∀ y∈Bo,y ∉ Bi:=λy h1 h2=>by have:=hnd y;have:=List.count_pos_iff.2 h1;have:=List.count_pos_iff.2 h2;simp only[List.cons_append,List.count_cons,List.count_append]at *;omega
  have NJ:g0 b=none:=bp h0 (vX b (dy b (by simp)));have NK:∀ y∈Bo,g0 y=none:=λy hy=>bp h0 (vX y (dy y (by simp[hy])));have XK:∀ y∈Bi,g0 y=none:=λy hy=>bp h0 (vX y (dy y (by simp[hy])));have done:∀(g':Heap) (x':List Value) (a':dR) (B':List Nat),g' b=some (.cells (pre++x'++post).toArray t (0,0))->x'.length=2->ox g' x' a' B'->cC g1 g' Bo->DK a'->(∀ y∈B',g0 y=none)->BM g0 g' (.slice (some ⟨b,0,none⟩) cs.length cc):=λg' x' a' B' h1 h2 h3 h4 h5 h6=>by
   obtain⟨B2,o2,c2⟩:=eF g' x' a' B' h1 h2 h3 h4;refine⟨_,_,_,_,rfl,lO o2 (λy hy=>?_) (λz hz=>?_) (by simp;omega)⟩
   ·have h7:=List.count_pos_iff.2 hy;have h8:y∈b::Bo++B':=by
     refine List.count_pos_iff.1 ?_;rw[<-c2 y];exact h7
    simp only[List.cons_append,List.mem_cons,List.mem_append]at h8;rcases h8 with rfl|h8|h8
    ·exact NJ
    ·exact NK y h8
    ·exact h6 y h8
   ·rcases List.mem_append.1 hz with h7|h7
    ·exact ok.bd z (List.mem_of_mem_take h7)
    ·rcases List.mem_cons.1 h7 with rfl|h7
     ·exact h5
     ·exact ok.bd z (List.mem_of_mem_drop h7)
  have Ma:=ok.bd _ (w_ hx);have Df:g b=none:=vX b (dy b (by simp));have e1:rd (cN g1 bb vb (q1+1+1+1)) b (0+x.toNat*2+1)=some (.slice wp cs[x.toNat].fields.length wc):=aX (bh r4.free) (bG U (i:=1) (by omega) rfl);have e2:rd (cN g1 bb vb (q1+1+1+1+1)) b (0+x.toNat*2+1)=some (.slice wp cs[x.toNat].fields.length wc):=aX (bh r4.free) (bG U (i:=1) (by omega) rfl);have fl:=Ma.2.1;have fl2:cs[x.toNat].fields.length<=2:=(ok.2.2 _ hx).2.2.2.2;have Ah:∀(g6:Heap) (B6:List Nat),Ev g1 g6 Bi B6->g6 b=some (.cells (pre++[Value.int .i64 cs[x.toNat].bN,.slice wp cs[x.toNat].fields.length wc]++post).toArray t (0,0))/\b ∉ B6:=λg6 B6 ev=>by
   refine⟨by rw[ev.ic b (by rw[U];simp) O8];exact U,λhm=>?_⟩;rcases ev.new b hm with h1|h1
   ·exact O8 h1
   ·rw[U]at h1;cases h1
  have fin:∀(c0:Int) (p':Option Addr) (c':Nat) (g6:Heap) (B6:List Nat),-1000<=c0/\c0<=1000->g.le g6->bD g6 bb vb (q1+1+1+1+1)->dV g6 (.slice p' (cs[x.toNat].fields++[c0]).length c') (cs[x.toNat].fields++[c0]) B6->(∀ y∈B6,g y=none)->Ev g1 g6 Bi B6 ->
    ∃ g' q,cN (g6.set b (.cells (pre++[Value.int .i64 cs[x.toNat].bN,.slice p' (cs[x.toNat].fields++[c0]).length c']++post).toArray t (0,0))) bb vb (q1+1+1+1+1)=cN g' bb vb q/\g.le g'/\g' bb=none/\p<=q/\q<=p+120/\BM g0 g' (.slice (some ⟨b,0,none⟩) cs.length cc):=λc0 p' c' g6 B6 hc0 k1 k2 k3 k4 ev=>by
   have h6:=Ah g6 B6 ev;refine⟨_,_,rfl,Heap.aM k1 Df,?_,by omega,by omega,done _ [.int .i64 cs[x.toNat].bN,.slice p' (cs[x.toNat].fields++[c0]).length c'] ⟨cs[x.toNat].bN,cs[x.toNat].fields++[c0]⟩ B6 (cZ _ _ _) rfl ⟨_,rfl,k3.aG (j5 h6.2)⟩ (λc hc o ho=>j5 O7 c hc o (by rw[ev.ic c (by rw[ho];simp) (La c hc)];exact ho)) ⟨Ma.1,by simp;omega,λt ht=>?_⟩ (λy hy=>bp h0 (k4 y hy))⟩
   ·have cD:bb≠b:=λe=>by have:=k2.free;rw[e,h6.1]at this;cases this
    simp[Heap.set,cD,k2.free]
   ·rcases List.mem_append.1 ht with h1|h1
    ·exact Ma.2.2 t h1
    ·rw[List.mem_singleton.1 h1];unfold cL;omega
  repeat' ((first|exact trivial|apply And.intro|refine ld e1 ?_|refine ld e2 ?_|refine ptr ?_|refine aq ?_|refine NG r4 (by omega) (λr5=>?_) (λr5=>?_) (λr5=>?_) (λr5=>?_)|refine xq (k:=[_]) r (bD.on r4 (by omega)) ow (λy hy=>vX y (dy y (by simp[hy]))) l1 rfl (by simp;omega) (λp' c' g6 B6 k1 k2 k3 k4 ev=>?_)|refine mQ k2.free (Ah _ _ ev).1 (by simp;omega) (nu (i:=1) (by simp only;omega) (by simp)) ?_|exact fin _ _ _ _ _ (by omega) k1 k2 k3 k4 ev)<;>conv=>whnf)
 apply ax<;>intro gd;all_goals conv=>whnf
 ·refine aq ?_;conv=>whnf
  obtain⟨_,_,_,jt,e,hcs⟩:=plain;simp only[Value.slice.injEq]at e;obtain⟨rfl,rfl,rfl⟩:=e;have rM:1<=jt.length:=by
   obtain⟨_,_,e,_,_⟩:=hcs.len;simp only[Value.slice.injEq]at e;omega
  exact⟨_,_,rfl,l1,r4.free,by omega,by omega,_,_,_,_,rfl,hcs.first rM⟩
 apply ax<;>intro ge;all_goals conv=>whnf
 ·have h1l:1 < cs.length:=by omega
  have ocp:=oc;have sO:cs=cs.take 1++cs[1]::cs.drop (1+1):=by rw[<-List.drop_eq_getElem_cons h1l,List.take_append_drop]
  have NH:eE ox 2 g1 (.slice cp cs.length cc) (cs.take 1++cs[1]::cs.drop (1+1)) B:=by rw[<-sO];exact oc
  have f:=NH.at sC;obtain⟨b,c,xr,pre,post,t,Bo,Bi,e,L9,U,fV,xj,hR,iK,eF⟩:=f;simp only[Value.slice.injEq]at e;obtain⟨hq,_,BN⟩:=e;subst hq BN;obtain⟨w,rfl,ow⟩:=hR;have f:=ow.form;obtain⟨wp,wc,rfl,NI⟩:=f;have BV:(cs[1].fields.map bO).length=cs[1].fields.length:=by simp
  rw[BV]at U ow NI;have kB:pre.length=1*2:=by rw[fV,List.length_take,Nat.min_eq_left (by omega)]
  have dy:∀ y,y∈b::Bo++Bi->y∈B:=λy hy=>by
   have h1:=List.count_pos_iff.2 hy;refine List.count_pos_iff.1 ?_;rw[iK y];exact h1
  have hnd:Nd (b::Bo++Bi):=O6.perm λa=>(iK a).symm;have O7:b ∉ Bo:=λhm=>by have:=hnd b;have:=List.count_pos_iff.2 hm;simp only[List.cons_append,List.count_cons,List.count_append,beq_self_eq_true,if_true]at *;omega
  have O8:b ∉ Bi:=λhm=>by have:=hnd b;have:=List.count_pos_iff.2 hm;simp only[List.cons_append,List.count_cons,List.count_append,beq_self_eq_true,if_true]at *;omega
  have La:∀ y∈Bo,y ∉ Bi:=λy h1 h2=>by have:=hnd y;have:=List.count_pos_iff.2 h1;have:=List.count_pos_iff.2 h2;simp only[List.cons_append,List.count_cons,List.count_append]at *;omega
  have NJ:g0 b=none:=bp h0 (vX b (dy b (by simp)));have NK:∀ y∈Bo,g0 y=none:=λy hy=>bp h0 (vX y (dy y (by simp[hy])));have XK:∀ y∈Bi,g0 y=none:=λy hy=>bp h0 (vX y (dy y (by simp[hy])));have done:∀(g':Heap) (x':List Value) (a':dR) (B':List Nat),g' b=some (.cells (pre++x'++post).toArray t (0,0))->x'.length=2->ox g' x' a' B'->cC g1 g' Bo->DK a'->(∀ y∈B',g0 y=none)->BM g0 g' (.slice (some ⟨b,0,none⟩) cs.length cc):=λg' x' a' B' h1 h2 h3 h4 h5 h6=>by
   obtain⟨B2,o2,c2⟩:=eF g' x' a' B' h1 h2 h3 h4;refine⟨_,_,_,_,rfl,lO o2 (λy hy=>?_) (λz hz=>?_) (by simp;omega)⟩
   ·have h7:=List.count_pos_iff.2 hy;have h8:y∈b::Bo++B':=by
     refine List.count_pos_iff.1 ?_;rw[<-c2 y];exact h7
    simp only[List.cons_append,List.mem_cons,List.mem_append]at h8;rcases h8 with rfl|h8|h8
    ·exact NJ
    ·exact NK y h8
    ·exact h6 y h8
   ·rcases List.mem_append.1 hz with h7|h7
    ·exact ok.bd z (List.mem_of_mem_take h7)
    ·rcases List.mem_cons.1 h7 with rfl|h7
     ·exact h5
     ·exact ok.bd z (List.mem_of_mem_drop h7)
  have Ma:=ok.bd _ (w_ h1l);have Df:g b=none:=vX b (dy b (by simp));obtain⟨xs,B0,B1,oC,hR,hBB⟩:=ocp;have FY:=hR.len;have e1:eG (cN g1 bb vb (q1+1+1+1)) b (0+1*2) 2=some [.int .i64 cs[1].bN,.slice wp cs[1].fields.length wc]:=by
   refine bK (bh r4.free) ?_;rw[bP U 2 (0+1*2) (by simp;omega),List.append_assoc,show 0+1*2=pre.length by omega,List.drop_left];rfl
  have abd:∀ y∈B1,y ∉ B0:=λy h1 h2=>by
   have:=O6 y;have:=List.count_pos_iff.2 h1;have:=List.count_pos_iff.2 h2;rw[hBB]at *;simp only[List.count_append]at *;omega
  have fin:∀(v':Value) (g6:Heap) (B6:List Nat),g.le g6->bD g6 bb vb (q1+1+1+1)->cn 2 g6 v' (xs++[[.int .i64 cs[1].bN,.slice wp cs[1].fields.length wc],[.int .i64 cs[1].bN,.slice wp cs[1].fields.length wc],[.int .i64 cs[1].bN,.slice wp cs[1].fields.length wc],[.int .i64 cs[1].bN,.slice wp cs[1].fields.length wc]]) B6->(∀ y∈B6,g y=none)->(∀ y,y ∉ B0->g1 y≠none->g6 y=g1 y) ->
    ∃ g' q,cN g6 bb vb (q1+1+1+1)=cN g' bb vb q/\g.le g'/\g' bb=none/\p<=q/\q<=p+120/\BM g0 g' v':=λv' g6 B6 k1 k2 k3 k4 k5=>by
   have f:=k3.form;obtain⟨p6,c6,rfl,_⟩:=f;have kp:∀ C:List Nat,(∀ y∈C,y∈B/\y ∉ B0)->cC g1 (since g0 g6) C:=λC hC y hy o ho=>by
    rw[eP (bp h0 (vX y (hC y hy).1)),k5 y (hC y hy).2 (by rw[ho];simp)];exact ho
   have YK:=hR.aG sC (kp B1 λy hy=>⟨by rw[hBB];simp[hy],abd y hy⟩);have hBi:∀ y∈Bi,y∈B/\y ∉ B0:=λy hy=>⟨dy y (by simp[hy]),λhm=>by
    obtain⟨_,⟨he,_,_⟩|⟨b',_,_,_,he,_,_,_,XL⟩⟩:=oC
    ·cases he
    ·simp only[Value.slice.injEq,Option.some.injEq,Addr.mk.injEq]at he;rw[XL,List.mem_singleton,<-he.1.1]at hm;exact O8 (by rw[<-hm];exact hy)⟩
   have ow6:ox (since g0 g6) [.int .i64 cs[1].bN,.slice wp cs[1].fields.length wc] cs[1] Bi:=⟨_,rfl,ow.aG (kp Bi hBi)⟩
   have rdK:∀(x:List Value) (c:dR) (C:List Nat),ox (since g0 g6) x c C->DK c->CG (since g0 g6) x c:=λx c C ho hc=>by
    obtain⟨w,e,o⟩:=ho;exact⟨w,e,hc.1,cn.BL o (by have:=hc.2.1;omega) λt ht=>⟨rfl,hc.2.2 t ht⟩⟩
   refine⟨_,_,rfl,k1,k2.free,by omega,by omega,_,_,_,cs++[cs[1],cs[1],cs[1],cs[1]],rfl,(k3.aG (jZ λy hy=>bp h0 (k4 y hy))).Rw (by simp[FY]) (by simp;omega) λi h1 h2=>?_⟩;by_cases hi:i < cs.length
   ·rw[List.getElem_append_left (by omega),List.getElem_append_left hi];obtain⟨C,hC⟩:=YK.mem i hi (by omega);exact rdK _ _ C hC (ok.bd _ (w_ hi))
   ·simp only[List.length_append,List.length_cons,List.length_nil]at h2;have h3:i=cs.length\/i=cs.length+1\/i=cs.length+2\/i=cs.length+3:=by omega
    have key:=rdK _ _ Bi ow6 (ok.bd _ (w_ h1l));rcases h3 with rfl|rfl|rfl|rfl;all_goals
     rw[List.getElem_append_right (by omega),List.getElem_append_right (by omega)];simp only[FY,Nat.sub_self,Nat.add_sub_cancel_left,List.getElem_cons_zero,List.getElem_cons_succ];exact key
  repeat' ((first|exact trivial|apply And.intro|refine dK e1 ?_|refine ptr ?_|refine aq ?_|refine pK r r4 (ys:=[[.int .i64 cs[1].bN,.slice wp cs[1].fields.length wc],[.int .i64 cs[1].bN,.slice wp cs[1].fields.length wc],[.int .i64 cs[1].bN,.slice wp cs[1].fields.length wc],[.int .i64 cs[1].bN,.slice wp cs[1].fields.length wc]]) oC (λy hy=>vX y (by rw[hBB];simp[hy])) l1 rfl rfl (by simp) rfl rfl (by simp;omega) (by simp;omega) (λv' g6 B6 k1 k2 k3 k4 k5 k6=>?_)|exact fin _ _ _ k1 k2 k3 k4 k5)<;>conv=>whnf)
 apply ax<;>intro gf;all_goals conv=>whnf
 ·skip
  have sO:cs=cs.take x.toNat++cs[x.toNat]::cs.drop (x.toNat+1):=by rw[<-List.drop_eq_getElem_cons hx,List.take_append_drop]
  have NH:eE ox 2 g1 (.slice cp cs.length cc) (cs.take x.toNat++cs[x.toNat]::cs.drop (x.toNat+1)) B:=by rw[<-sO];exact oc
  have f:=NH.at sC;obtain⟨b,c,xr,pre,post,t,Bo,Bi,e,L9,U,fV,xj,hR,iK,eF⟩:=f;simp only[Value.slice.injEq]at e;obtain⟨hq,_,BN⟩:=e;subst hq BN;obtain⟨w,rfl,ow⟩:=hR;have f:=ow.form;obtain⟨wp,wc,rfl,NI⟩:=f;have BV:(cs[x.toNat].fields.map bO).length=cs[x.toNat].fields.length:=by simp
  rw[BV]at U ow NI;have kB:pre.length=x.toNat*2:=by rw[fV,List.length_take,Nat.min_eq_left (by omega)]
  have dy:∀ y,y∈b::Bo++Bi->y∈B:=λy hy=>by
   have h1:=List.count_pos_iff.2 hy;refine List.count_pos_iff.1 ?_;rw[iK y];exact h1
  have hnd:Nd (b::Bo++Bi):=O6.perm λa=>(iK a).symm;have O7:b ∉ Bo:=λhm=>by have:=hnd b;have:=List.count_pos_iff.2 hm;simp only[List.cons_append,List.count_cons,List.count_append,beq_self_eq_true,if_true]at *;omega
  have O8:b ∉ Bi:=λhm=>by have:=hnd b;have:=List.count_pos_iff.2 hm;simp only[List.cons_append,List.count_cons,List.count_append,beq_self_eq_true,if_true]at *;omega
  have La:∀ y∈Bo,y ∉ Bi:=λy h1 h2=>by have:=hnd y;have:=List.count_pos_iff.2 h1;have:=List.count_pos_iff.2 h2;simp only[List.cons_append,List.count_cons,List.count_append]at *;omega
  have NJ:g0 b=none:=bp h0 (vX b (dy b (by simp)));have NK:∀ y∈Bo,g0 y=none:=λy hy=>bp h0 (vX y (dy y (by simp[hy])));have XK:∀ y∈Bi,g0 y=none:=λy hy=>bp h0 (vX y (dy y (by simp[hy])));have done:∀(g':Heap) (x':List Value) (a':dR) (B':List Nat),g' b=some (.cells (pre++x'++post).toArray t (0,0))->x'.length=2->ox g' x' a' B'->cC g1 g' Bo->DK a'->(∀ y∈B',g0 y=none)->BM g0 g' (.slice (some ⟨b,0,none⟩) cs.length cc):=λg' x' a' B' h1 h2 h3 h4 h5 h6=>by
   obtain⟨B2,o2,c2⟩:=eF g' x' a' B' h1 h2 h3 h4;refine⟨_,_,_,_,rfl,lO o2 (λy hy=>?_) (λz hz=>?_) (by simp;omega)⟩
   ·have h7:=List.count_pos_iff.2 hy;have h8:y∈b::Bo++B':=by
     refine List.count_pos_iff.1 ?_;rw[<-c2 y];exact h7
    simp only[List.cons_append,List.mem_cons,List.mem_append]at h8;rcases h8 with rfl|h8|h8
    ·exact NJ
    ·exact NK y h8
    ·exact h6 y h8
   ·rcases List.mem_append.1 hz with h7|h7
    ·exact ok.bd z (List.mem_of_mem_take h7)
    ·rcases List.mem_cons.1 h7 with rfl|h7
     ·exact h5
     ·exact ok.bd z (List.mem_of_mem_drop h7)
  have Ma:=ok.bd _ (w_ hx);have Df:g b=none:=vX b (dy b (by simp));refine kP [.int .i64 1,.int .i64 1,.int .i64 1] r4 rfl (λbf g6 jS nbf l6 r6 e6=>?_);conv=>whnf
  have Ah:=l6 _ _ U;have nbb:b≠bf:=by rintro rfl;rw[jS]at U;cases U
  refine aq ?_;conv=>whnf
  refine ptr ?_;conv=>whnf
  refine mQ r6.free Ah (by simp;omega) (nu (i:=1) (by simp only;omega) (by simp)) ?_;conv=>whnf
  have Ox:dV g6 (.slice (some ⟨bf,0,none⟩) 3 3) [1,1,1] [bf]:=⟨by simp[bO],.inr ⟨bf,3,[],_,rfl,by simp,e6,by simp[bO],rfl⟩⟩
  refine⟨_,_,rfl,Heap.aM (ww l1 l6) Df,?_,by omega,by omega,done _ [.int .i64 cs[x.toNat].bN,.slice (some ⟨bf,0,none⟩) 3 3] ⟨cs[x.toNat].bN,[1,1,1]⟩ [bf] (cZ _ _ _) rfl ⟨_,rfl,Ox.aG (j5 (by simpa using nbb))⟩ (λc hc o ho=>j5 O7 c hc o (l6 _ _ ho)) ⟨Ma.1,by simp,λt ht=>by simp at ht;subst ht;unfold cL;omega⟩ (λy hy=>by rw[List.mem_singleton.1 hy];exact bp (ww h0 l1) jS)⟩;have cD:bb≠b:=λe=>by have:=r6.free;rw[e,Ah]at this;cases this
  simp[Heap.set,cD,r6.free]
 ·skip
  have sO:cs=cs.take x.toNat++cs[x.toNat]::cs.drop (x.toNat+1):=by rw[<-List.drop_eq_getElem_cons hx,List.take_append_drop]
  have NH:eE ox 2 g1 (.slice cp cs.length cc) (cs.take x.toNat++cs[x.toNat]::cs.drop (x.toNat+1)) B:=by rw[<-sO];exact oc
  have f:=NH.at sC;obtain⟨b,c,xr,pre,post,t,Bo,Bi,e,L9,U,fV,xj,hR,iK,eF⟩:=f;simp only[Value.slice.injEq]at e;obtain⟨hq,_,BN⟩:=e;subst hq BN;obtain⟨w,rfl,ow⟩:=hR;have f:=ow.form;obtain⟨wp,wc,rfl,NI⟩:=f;have BV:(cs[x.toNat].fields.map bO).length=cs[x.toNat].fields.length:=by simp
  rw[BV]at U ow NI;have kB:pre.length=x.toNat*2:=by rw[fV,List.length_take,Nat.min_eq_left (by omega)]
  have dy:∀ y,y∈b::Bo++Bi->y∈B:=λy hy=>by
   have h1:=List.count_pos_iff.2 hy;refine List.count_pos_iff.1 ?_;rw[iK y];exact h1
  have hnd:Nd (b::Bo++Bi):=O6.perm λa=>(iK a).symm;have O7:b ∉ Bo:=λhm=>by have:=hnd b;have:=List.count_pos_iff.2 hm;simp only[List.cons_append,List.count_cons,List.count_append,beq_self_eq_true,if_true]at *;omega
  have O8:b ∉ Bi:=λhm=>by have:=hnd b;have:=List.count_pos_iff.2 hm;simp only[List.cons_append,List.count_cons,List.count_append,beq_self_eq_true,if_true]at *;omega
  have La:∀ y∈Bo,y ∉ Bi:=λy h1 h2=>by have:=hnd y;have:=List.count_pos_iff.2 h1;have:=List.count_pos_iff.2 h2;simp only[List.cons_append,List.count_cons,List.count_append]at *;omega
  have NJ:g0 b=none:=bp h0 (vX b (dy b (by simp)));have NK:∀ y∈Bo,g0 y=none:=λy hy=>bp h0 (vX y (dy y (by simp[hy])));have XK:∀ y∈Bi,g0 y=none:=λy hy=>bp h0 (vX y (dy y (by simp[hy])));have done:∀(g':Heap) (x':List Value) (a':dR) (B':List Nat),g' b=some (.cells (pre++x'++post).toArray t (0,0))->x'.length=2->ox g' x' a' B'->cC g1 g' Bo->DK a'->(∀ y∈B',g0 y=none)->BM g0 g' (.slice (some ⟨b,0,none⟩) cs.length cc):=λg' x' a' B' h1 h2 h3 h4 h5 h6=>by
   obtain⟨B2,o2,c2⟩:=eF g' x' a' B' h1 h2 h3 h4;refine⟨_,_,_,_,rfl,lO o2 (λy hy=>?_) (λz hz=>?_) (by simp;omega)⟩
   ·have h7:=List.count_pos_iff.2 hy;have h8:y∈b::Bo++B':=by
     refine List.count_pos_iff.1 ?_;rw[<-c2 y];exact h7
    simp only[List.cons_append,List.mem_cons,List.mem_append]at h8;rcases h8 with rfl|h8|h8
    ·exact NJ
    ·exact NK y h8
    ·exact h6 y h8
   ·rcases List.mem_append.1 hz with h7|h7
    ·exact ok.bd z (List.mem_of_mem_take h7)
    ·rcases List.mem_cons.1 h7 with rfl|h7
     ·exact h5
     ·exact ok.bd z (List.mem_of_mem_drop h7)
  have Ma:=ok.bd _ (w_ hx);have Df:g b=none:=vX b (dy b (by simp));refine aq ?_;conv=>whnf
  refine ptr ?_;conv=>whnf
  refine mQ r4.free U (by simp;omega) (nu (i:=1) (by simp only;omega) (by simp)) ?_;conv=>whnf
  refine⟨_,_,rfl,Heap.aM l1 Df,?_,by omega,by omega,done _ [.int .i64 cs[x.toNat].bN,.slice none 0 0] ⟨cs[x.toNat].bN,[]⟩ [] (cZ _ _ _) rfl ⟨_,rfl,by simp,.inl ⟨rfl,rfl,rfl⟩⟩ (j5 O7) ⟨Ma.1,by simp,by simp⟩ (by simp)⟩;have cD:bb≠b:=λe=>by have:=r4.free;rw[e,U]at this;cases this
  simp[Heap.set,cD,r4.free]
theorem Ap {u:aU} {m:cB} {x:dX} (h:eH u m x):∃ p q,sx x.kind=some (p,q)/\(1<=x.kind/\x.kind<=24)/\bA u m x.a p x.a/\bA u m x.a q x.b/\(p=4↔8<=x.kind/\x.kind<=11)/\(q=0\/q=8\/q=9)/\(q=0\/p=5)/\(0<=p/\p<=7):=by
 obtain⟨p,q,hk,h1,h2⟩:=h;refine⟨p,q,hk,?_⟩;rcases EB x.kind with ⟨_,h⟩|⟨i,a,b,hf,hw,_⟩
 ·rw[h]at hk;cases hk
 ·rw[hk]at hw;simp only[Option.some.injEq,Prod.mk.injEq]at hw;obtain⟨rfl,rfl⟩:=hw;have hm:=rz _ _ hf;simp only[jR,eB,List.mem_cons,List.not_mem_nil,or_false,Prod.mk.injEq,Value.agg.injEq,Array.mk.injEq,List.cons.injEq,Value.int.injEq,true_and,and_true]at hm;refine(λhx:(1<=x.kind/\x.kind<=24)/\(p=4↔8<=x.kind/\x.kind<=11)/\(q=0\/q=8\/q=9)/\(q=0\/p=5)/\(0<=p/\p<=7)=>⟨hx.1,h1,h2,hx.2⟩) ?_;omega
theorem DL {u:aU} {m:cB} {a jC n:Int} (h:bA u m a jC n) (hw:jC=8->0<=a/\a < u.J.length) (ok:cj u.J) (hn:u.methods.length<=100) (hl:m.locals<=1000) (hc:m.code.length<=1000) : -1000<=n/\n<=1000:=by
 unfold bA at h;have:=ok.2.1;by_cases h1:jC=1
 ·rw[if_pos h1]at h;have:=eT.1 h;omega
 rw[if_neg h1]at h;by_cases h2:jC=2
 ·rw[if_pos h2]at h;omega
 rw[if_neg h2]at h;by_cases h3:jC=3
 ·rw[if_pos h3]at h;omega
 rw[if_neg h3]at h;by_cases h4:jC=4
 ·rw[if_pos h4]at h;omega
 rw[if_neg h4]at h;by_cases h5:jC=5
 ·rw[if_pos h5]at h;omega
 rw[if_neg h5]at h;by_cases h6:jC=6
 ·rw[if_pos h6]at h;omega
 rw[if_neg h6]at h;by_cases h7:jC=7
 ·rw[if_pos h7]at h;omega
 rw[if_neg h7]at h;by_cases h8:jC=8
 ·rw[if_pos h8]at h;have:=fH ok (hw h8).2;omega
 rw[if_neg h8]at h;by_cases h9:jC=9
 ·rw[if_pos h9]at h;omega
 rw[if_neg h9]at h;omega
theorem uV {u:aU} {m:cB} {x:dX} (h:eH u m x) (ok:cj u.J) (hn:u.methods.length<=100) (hl:m.locals<=1000) (hc:m.code.length<=1000):(1<=x.kind/\x.kind<=24)/\(-1000<=x.a/\x.a<=1000)/\-1000<=x.b/\x.b<=1000:=by
 obtain⟨p,q,_,hk,h1,h2,_,_,h5,h6⟩:=Ap h;refine⟨hk,DL h1 (λe=>by omega) ok hn hl hc,DL h2 (λe=>?_) ok hn hl hc⟩;have hp:p=5:=by omega
 subst hp;exact h1
theorem y6 {u:aU} {m m':cB} {a jC n:Int} (h:bA u m a jC n) (hw:jC≠4) (hl:m'.locals=m.locals):bA u m' a jC n:=by
 unfold bA at h ⊢;rw[if_neg hw]at h ⊢;rw[hl];exact h
theorem HU {u:aU} {m m':cB} {x:dX} (h:eH u m x) (hk:¬(8<=x.kind/\x.kind<=11)) (hl:m'.locals=m.locals):eH u m' x:=by
 obtain⟨p,q,hw,_,h1,h2,h3,h4,_⟩:=Ap h;exact⟨p,q,hw,y6 h1 (λe=>hk (h3.1 e)) hl,y6 h2 (λe=>by omega) hl⟩
theorem HV {u:aU} {m:cB} {x:dX} (hk:8<=x.kind/\x.kind<=11) (ha:0<=x.a/\x.a < m.code.length) (U:x.b=0):eH u m x:=by
 have Ef:x.kind=8\/x.kind=9\/x.kind=10\/x.kind=11:=by omega
 refine⟨4,0,?_,ha,?_⟩
 ·rcases Ef with e|e|e|e<;>(rw[e];rfl)
 ·unfold bA;simp[U]
def Good (u:aU) (m:cB) (L:Int) (x:dX):Prop:=(eH u {m with code:=[x]} x/\¬(8<=x.kind/\x.kind<=11))\/((8<=x.kind/\x.kind<=11)/\(0<=x.a/\x.a < L)/\x.b=0)
theorem Good.ins {u:aU} {m m':cB} {L:Int} {x:dX} (h:Good u m L x) (hl:m'.locals=m.locals) (hc:(m'.code.length:Int)=L):eH u m' x:=by
 rcases h with ⟨h1,h2⟩|⟨h1,h2,h3⟩
 ·exact HU h1 h2 hl
 ·exact HV h1 (by omega) h3
theorem Gv {u:aU} {m:cB} {x:dX} (h:uT u m x) (ok:cj u.J) (hn:u.methods.length<=100) (hl:m.locals<=1000):(1<=x.kind/\x.kind<=24)/\(-1000<=x.a/\x.a<=1000)/\-1000<=x.b/\x.b<=1000:=by
 rcases h with ⟨h1,_⟩|⟨h1,h2,h3⟩
 ·exact uV h1 ok hn hl (by simp)
 ·omega
def wY (x:mU):List Value:=[.int .i64 x.lo,.int .i64 x.hi,.int .i64 x.to,.int .i64 x.cls]
structure kR (gB g:Heap) (code:List dX) (pc:Option Addr) (cc:Nat) (Bc:List Nat) (el:List Int) (pe:Option Addr) (ce:Nat) (Be:List Nat) (ks:List mU) (kv:Value) (Bk:List Nat):Prop where
 le:gB.le g
 oc:DF g (.slice pc code.length cc) code Bc
 oe:dV g (.slice pe el.length ce) el Be
 ok:cn 4 g kv (ks.map wY) Bk
 kf:(kv=.slice none 0 0/\ks=[])\/∃ bk,kv=.slice (some ⟨bk,0,none⟩) 1 1/\ks.length=1
 nd:Nd (Bc++(Be++Bk))
 fr:∀ b∈Bc++(Be++Bk),gB b=none
section
variable {gB g g':Heap} {code:List dX} {pc:Option Addr} {cc:Nat} {Bc:List Nat} {el:List Int} {pe:Option Addr} {ce:Nat} {Be:List Nat} {ks:List mU} {kv:Value} {Bk:List Nat}
theorem kR.in (h:kR gB g code pc cc Bc el pe ce Be ks kv Bk):∀ b∈Bc++(Be++Bk),∃ o,g b=some o :=
 λb U=>(List.mem_append.1 U).elim (h.oc.in b) λU=>(List.mem_append.1 U).elim (h.oe.in b) (h.ok.in b)
theorem kR.aG (h:kR gB g code pc cc Bc el pe ce Be ks kv Bk) (hl:g.le g'):kR gB g' code pc cc Bc el pe ce Be ks kv Bk :=
 ⟨ww h.le hl,h.oc.aG (cC.of_le hl _),h.oe.aG (cC.of_le hl _),h.ok.aG (cC.of_le hl _),h.kf,h.nd,h.fr⟩
theorem kR.of {u:aU} {m:cB} (h:kD gB g u m code pc cc Bc el pe ce Be):kR gB g code pc cc Bc el pe ce Be [] (.slice none 0 0) [] :=
 ⟨h.le,h.oc,h.oe,⟨by simp,.inl ⟨rfl,rfl,rfl⟩⟩,.inl ⟨rfl,rfl⟩,by simpa using h.nd,by simpa using h.fr⟩
theorem kR.app {bb:Nat} {vb:Value} {q0 q:Int} {n mm bytes:Nat} {zero vs:List Value} {ty:TypeId} {K:Value->Heap->Prop} (h:kR gB g code pc cc Bc el pe ce Be ks kv Bk) (r0:bD gB bb vb q0) (r:bD g bb vb q) (xs:List dX) (hn:n=code.length) (hm:mm=xs.length) (hv:vs=(xs.map dx).flatten) (OZ:dG vs=true) (hl:code.length<=1000) (hx:xs.length<=10) (hz:zero.length=3) (U:bytes<=1000)
  (hk:∀ p' c' g' B',kR gB g' (code++xs) p' c' B' el pe ce Be ks kv Bk->bD g' bb vb q->K (.slice p' (code++xs).length c') (cN g' bb vb q)):App bytes 3 zero ty (cN g bb vb q) pc n cc mm vs K:=by
 subst hn hv hm;have fI:=h.in;have hm:((code.map dx).length+(xs.map dx).length)*bytes<=1010*1000:=Nat.mul_le_mul (by simp;omega) U;refine Go.Proofs.pK r0 r (ys:=xs.map dx) h.oc (λb U=>h.fr b (by simp[U])) h.le rfl (by simp) (λy hy=>by obtain⟨x,_,rfl⟩:=List.mem_map.1 hy;rfl) OZ hz (by omega) (by simp;omega) ?_;intro v' g' B' k1 k2 k3 k4 k5 k6;have HQ:DF g' v' (code++xs) B':=by unfold DF;rw[List.map_append];exact k3
 obtain⟨p',c',rfl,_⟩:=cn.form HQ;have rM:((code++xs).map dx).length=(code++xs).length:=by simp
 rw[rM]at HQ ⊢;have ev:Ev g g' Bc B':=⟨λb U hs=>k5 b hs U,k6⟩
 refine hk p' c' g' B' ⟨k1,HQ,h.oe.aG (ev.aG λb U hc=>vW h.nd b hc (by simp[U])),h.ok.aG (ev.aG λb U hc=>vW h.nd b hc (by simp[U])),h.kf,?_,λb U=>?_⟩ k2
 ·have:=Nd.swap (A:=Be++Bk) (X:=Bc) (X':=B') (h.nd.perm λa=>by simp only[List.count_append];omega) HQ.nd (λb U=>(k6 b U).imp id λhn hm=>by
   obtain⟨o,ho⟩:=fI b (by simp at hm ⊢;grind);rw[hn]at ho;cases ho)
  exact this.perm λa=>by simp only[List.count_append];omega
 ·rcases List.mem_append.1 U with h1|h1
  ·exact k4 b h1
  ·exact h.fr b (by simp at h1 ⊢;grind)
theorem kR.cat {bb:Nat} {vb:Value} {q:Int} {cs:List Value} {t:TypeId} {K:Nat->Heap->Prop} (h:kR gB g code pc cc Bc el pe ce Be [] (.slice none 0 0) []) (r:bD g bb vb q) (x:mU) (hc:cs=wY x)
  (hk:∀ b g',kR gB g' code pc cc Bc el pe ce Be [x] (.slice (some ⟨b,0,none⟩) 1 1) [b]->bD g' bb vb q->K b (cN g' bb vb q)):Ig (cN g bb vb q) cs t K:=by
 refine kP (wY x) r hc (λb g' U nb l r' e=>?_);have fI:=h.in;have h':=h.aG l;refine hk b g' ⟨h'.le,h'.oc,h'.oe,⟨by simp[wY],.inr ⟨b,1,[],t,by simp,by simp,by simpa using e,by simp[wY],rfl⟩⟩,.inr ⟨b,rfl,rfl⟩,?_,λc hc=>?_⟩ r'
 ·have h1:Nd (Bc++Be):=by have:=h.nd;simpa using this
  have:=Nd.two h1 (B:=[b]) (λa=>by simp only[List.count_cons,List.count_nil];split<;>omega) (λc hc hm=>by
   rw[List.mem_singleton.1 hc]at hm;obtain⟨o,ho⟩:=fI b (by simpa using hm);rw[U]at ho;cases ho)
  exact this.perm λa=>by simp only[List.count_append];omega
 ·simp only[List.mem_append,List.mem_singleton]at hc;rcases hc with hc|hc|rfl
  ·exact h.fr c (by simp[hc])
  ·exact h.fr c (by simp[hc])
  ·exact bp h.le U
theorem kR.at (h:kR gB g code pc cc Bc el pe ce Be ks kv Bk) {i:Nat} (hi:i < code.length):∃ b,pc=some ⟨b,0,none⟩/\eG g b (0+i*3) 3=some (dx code[i]) /\
  ∃ pre post t,g b=some (.cells (pre++dx code[i]++post).toArray t (0,0))/\pre.length=i*3/\∀ y g',g'=g.set b (.cells (pre++dx y++post).toArray t (0,0))->kR gB g' (code.set i y) pc cc Bc el pe ce Be ks kv Bk:=by
 have BW:code.map dx=(code.take i).map dx++dx code[i]::(code.drop (i+1)).map dx:=by
  rw[<-List.map_cons,<-List.map_append,<-List.drop_eq_getElem_cons hi,List.take_append_drop]
 have oc:=h.oc;unfold DF at oc;rw[BW]at oc;obtain⟨b,c,pre,post,t,e,U,hp,_,hB,eF⟩:=oc.at;simp only[Value.slice.injEq]at e;obtain⟨rfl,_,rfl⟩:=e;subst hB;have kB:pre.length=i*3:=by rw[hp,List.length_map,List.length_take,Nat.min_eq_left (by omega)]
 refine⟨b,rfl,?_,pre,post,t,U,kB,λy g' e=>?_⟩
 ·rw[bP U 3 (0+i*3) (by simp[kB,dx])];rw[List.append_assoc,Nat.zero_add,<-kB,List.drop_left];rfl
 ·have g5:g' b=some (.cells (pre++dx y++post).toArray t (0,0)):=by rw[e];exact cZ _ _ _
  have o2:=eF g' (dx y) g5 rfl;have zl:(code.set i y).map dx=(code.take i).map dx++dx y::(code.drop (i+1)).map dx:=by
   rw[List.set_eq_take_append_cons_drop,if_pos hi];simp
  have kp:cC g g' (Be++Bk):=λc hc o ho=>by
   have:c≠b:=λe=>vW h.nd b (by simp) (by rw[<-e];exact hc);rw[e];simp only[Heap.set,this,if_false];exact ho
  refine⟨?_,?_,h.oe.aG kp.l,h.ok.aG kp.r,h.kf,h.nd,h.fr⟩
  ·rw[e];exact Heap.aM h.le (h.fr b (by simp))
  ·unfold DF;rw[zl,List.length_set];exact o2
end
open Go.Vc Go.Proofs.Tryz
set_option maxRecDepth 100000
set_option maxHeartbeats 4000000
structure abe (Gb:Heap) (rec:List Value) (m:cB) (a:Value):Prop where
 form:∃ bc cc bs cs kv,rec=[.int .i64 m.cls,.int .i64 m.eL,a,.int .i64 m.out,.int .i64 m.locals,.slice (some ⟨bc,0,none⟩) m.code.length cc,.slice (some ⟨bs,0,none⟩) m.aL.length cs,kv]/\(Gb bc=none/\Gb bs=none) /\
  ((kv=.slice none 0 0/\m.catches=[])\/∃ bk,kv=.slice (some ⟨bk,0,none⟩) 1 1/\m.catches.length=1)
def y7 (m m':cB):Prop:=m'.cls=m.cls/\m'.eL=m.eL/\m'.args=m.args/\m'.out=m.out/\m'.locals=m.locals
theorem y7.O9 {n:Nat} {m m':cB} (h:y7 m m') (hH:eY n m):eY n m':=by
 obtain⟨h1,h2,h3,h4,h5⟩:=h;unfold eY bX at hH ⊢;rw[h1,h2,h3,h4,h5];exact hH
structure Gw (Gb G:Heap) (u:aU) (m:cB) (a:Value) (rec:List Value) (m':cB):Prop where
 same:y7 m m'
 read:ee G rec m'
 ms:YL u m'
 form:abe Gb rec m' a
theorem y8 {n:Nat} {m:cB} (hH:eY n m) (hn:n<=5):cL m.cls/\cL m.eL/\cL m.out/\cL m.locals:=by
 unfold eY cR at hH;have zB:0<=m.locals:=by have:=hH.2.2.2.2.2;omega
 obtain⟨h1,_,h2,_,h3,_⟩:=hH;unfold cL;omega
theorem iW {α:Type} {sz:Nat} {R:Heap->List Value->α->Prop} (h:Heap):Row sz R h (.slice none 0 0) ([]:List α):=⟨by simp,none,0,rfl,by simp,.inl rfl⟩
theorem Aq {g:Heap} {n:Nat} {m:cB} {a:Value} (hH:eY n m) (hn:n<=5) (ha:cT g a m.args) (e1:m.code=[]) (e2:m.aL=[]) (e3:m.catches=[]):ee g (eo m.cls m.eL a m.out m.locals) m:=by
 obtain⟨i1,i2,i3,i4⟩:=y8 hH hn;exact⟨a,_,_,_,rfl,i1,i2,i3,i4,ha,by rw[e1];exact iW g,by rw[e2];exact iW g,by rw[e3];exact iW g⟩
theorem Gx {h:Heap} {b n sz:Nat} {vs:List Value} {K:List Value->Prop} (hr:eG h b 0 (n*sz)=some vs) (hk:K vs):RK h (some ⟨b,0,none⟩) (n*sz) K:=by
 rw[tG];unfold D8;exact .inr ⟨b,0,vs,rfl,hr,hk⟩
theorem Gy {a:Int} {n:Nat} (ha:0<=a) (hn:0 < n):0<=a.tmod n/\a.tmod n < n:=by
 rw[Int.tmod_eq_emod_of_nonneg ha];exact⟨Int.emod_nonneg _ (by omega),Int.emod_lt_of_pos _ (by omega)⟩
theorem wN {h:Heap} {p:Option Addr} {n c:Nat} {l:List Int} {B:List Nat} (ho:dV h (.slice p n c) l B) {i:Nat} (hi:i < l.length):∃ b,p=some ⟨b,0,none⟩/\rd h b (0+i*1)=some (.int .i64 l[i]):=by
 obtain⟨_,⟨he,hn,_⟩|⟨b,c',rest,t,he,hc,U,_,_⟩⟩:=ho
 ·have:l=[]:=by simpa using hn
  subst this;simp at hi
 ·simp only[Value.slice.injEq]at he;obtain⟨rfl,_,_⟩:=he;refine⟨b,rfl,?_⟩;rw[dA]at U;simp only[rd,U,List.getElem?_toArray,Nat.zero_add,Nat.mul_one];rw[List.getElem?_append_left (by simpa using hi)];simp[hi]
theorem DM {gB g g0:Heap} {code:List dX} {pc:Option Addr} {cc:Nat} {Bc:List Nat} {el:List Int} {pe:Option Addr} {ce:Nat} {Be:List Nat} {ks:List mU} {kv:Value} {Bk:List Nat} (h:kR gB g code pc cc Bc el pe ce Be ks kv Bk) (hl:g0.le gB) (hn:code.length<=100)
  (hg:∀ x∈code,(1<=x.kind/\x.kind<=24)/\(-1000<=x.a/\x.a<=1000)/\-1000<=x.b/\x.b<=1000):Row 3 CH (since g0 g) (.slice pc code.length cc) code :=
 (h.oc.aG (jZ λb U=>bp hl (h.fr b (by simp[U])))).BL (by omega) λx hx=>⟨rfl,by
  have:=hg x hx;unfold cL;omega⟩
theorem As {gB g:Heap} {code:List dX} {pc:Option Addr} {cc:Nat} {Bc:List Nat} {el:List Int} {pe:Option Addr} {ce:Nat} {Be:List Nat} {ks:List mU} {kv:Value} {Bk:List Nat} (h:kR gB g code pc cc Bc el pe ce Be ks kv Bk) (hn:1<=code.length):∃ b,pc=some ⟨b,0,none⟩/\gB b=none:=by
 have ho:=h.oc;obtain⟨_,⟨_,e,_⟩|⟨b,c,rest,t,e,_,_,_,hB⟩⟩:=ho
 ·have:code=[]:=by simpa using e
  subst this;simp at hn
 ·simp only[Value.slice.injEq]at e;exact⟨b,e.1,h.fr b (by rw[hB];simp)⟩
theorem pN {gB g g0:Heap} {code:List dX} {pc:Option Addr} {cc:Nat} {Bc:List Nat} {el:List Int} {pe:Option Addr} {ce:Nat} {Be:List Nat} {ks:List mU} {kv:Value} {Bk:List Nat} {m:cB} {n:Nat} {a cv:Value} {cl:List dX}
  (h:kR gB g code pc cc Bc el pe ce Be ks kv Bk) (hl:g0.le gB) (hH:eY n m) (hn5:n<=5) (ha:cT (since g0 gB) a m.args) (hc:Row 3 CH (since g0 g) cv cl) (hk:∀ x∈ks,(0<=x.lo/\x.lo < x.hi/\x.hi<=100/\0<=x.to/\x.to < 100)/\x.cls=1) :
  ee (since g0 g) [.int .i64 m.cls,.int .i64 m.eL,a,.int .i64 m.out,.int .i64 m.locals,cv,.slice none 0 0,kv] {m with code:=cl,aL:=[],catches:=ks}:=by
 obtain⟨i1,i2,i3,i4⟩:=y8 hH hn5;refine⟨a,_,_,_,rfl,i1,i2,i3,i4,ha.le (bW g0 h.le),hc,iW _,(h.ok.aG (jZ λb U=>bp hl (h.fr b (by simp[U])))).BL ?_ λx hx=>⟨rfl,?_⟩⟩
 ·rcases h.kf with ⟨_,e⟩|⟨_,_,e⟩
  ·simp[e]
  ·omega
 ·have:=hk x hx;unfold cL;omega
theorem HW {g0 g:Heap} {bb:Nat} {vb:Value} {p:Int} (us:List Value) (u:aU) (m:cB) (a:Value) (r:bD g bb vb p) (hp:p<=40000000) (h0:g0.le g) (hu:dL (since g0 g) us u) (ha:cT (since g0 g) a m.args) (hV:HI u) (hn:u.methods.length<=100) (hH:eY u.J.length m) (e1:m.code=[]) (e2:m.aL=[]) (e3:m.catches=[]) :
  Dr prog 127 [.pointer (some ⟨bb,0,none⟩),.agg ⟨us⟩,.agg ⟨eo m.cls m.eL a m.out m.locals⟩] g bb vb p 2100 λg' v=>∃ rec m',v=.agg ⟨rec⟩/\Gw (since g0 g) (since g0 g') u m a rec m':=by
 have ok:=hV.1;have DN:=ok.2.1;have sG:=hH.2.2.2.2.1;have zB:0<=m.locals:=by have:=hH.2.2.2.2.2;omega
 have hm:=Aq hH DN (ha.le (aJ g0 g)) e1 e2 e3;have zM:=λp1 (r1:bD g bb vb p1) zD zF Gt=>HT us (eo m.cls m.eL a m.out m.locals) u m zF r1 zD (hu.le (aJ g0 g)) hm hV hn hH Gt;have iJ:=hu;obtain⟨cp,cc,q,d,rfl,hcs,fM,jN,hl2⟩:=hu.form;obtain⟨ap,ac,rfl,Qr,Wb⟩:=ha.len;refine bS au func127 SS SU rfl ?_;unfold eo;conv=>whnf
 refine bF r (by omega) (λx x0 x1 x2 r1=>?_);conv=>whnf
 apply ax<;>intro gc;all_goals conv=>whnf
 rotate_left
 refine iC r1 (zM _ r1 (by omega) _ (by omega)) (λv g2 q2 l2 r2 q20 q21 hA=>?_);obtain⟨code,pc,kc,Bc,el,pe,ke,Be,rfl,hB,Gt⟩:=hA;have hF0:=kR.of hB;conv=>whnf
 refine cy gc ?_;conv=>whnf
 have hX:∀ j (h:j < code.length),(j < 0\/code.length<=j->Good u m ((code.length:Int)+2) code[j])/\(0<=j->j < code.length->uT u m code[j]):=λj hj=>⟨λh=>by omega,λ_ h=>hB.ins _ (w_ h)⟩
 rotate_left
 refine aj ?_;conv=>whnf
 refine iC r1 (zM _ r1 (by omega) _ (by omega)) (λv g2 q2 l2 r2 q20 q21 hA=>?_);obtain⟨code,pc,kc,Bc,el,pe,ke,Be,rfl,hB,Gt⟩:=hA;have hF0:=kR.of hB;conv=>whnf
 refine fX gc ?_;conv=>whnf
 apply ax<;>intro gn;all_goals conv=>whnf
 ·refine aj ?_;conv=>whnf
  refine hF0.app r r2 [⟨11,(code.length:Int)+2,0⟩,⟨5,0,0⟩] rfl rfl rfl rfl (by omega) (by simp) rfl (Nat.le_of_ble_eq_true rfl) (λpX kX gX BX YA rX=>?_);conv=>whnf
  refine aj ?_;conv=>whnf
  refine bF rX (by omega) (λkf kf0 kf1 kf2 rY=>?_);conv=>whnf
  refine aj ?_;conv=>whnf
  refine YA.cat rY ⟨kf,code.length,(code.length:Int)+1,1⟩ rfl (λbk g3 hF r3=>?_);conv=>whnf
  have hX:∀ j (h:j < (code++[(⟨11,(code.length:Int)+2,0⟩:dX),⟨5,0,0⟩]).length),(j < 0\/code.length<=j->Good u m (((code++[(⟨11,(code.length:Int)+2,0⟩:dX),⟨5,0,0⟩]).length:Int)+2) (code++[(⟨11,(code.length:Int)+2,0⟩:dX),⟨5,0,0⟩])[j])/\(0<=j->j < code.length->uT u m (code++[(⟨11,(code.length:Int)+2,0⟩:dX),⟨5,0,0⟩])[j]):=λj hj=>by
   simp only[List.length_append,List.length_cons,List.length_nil]at hj;refine⟨λh=>?_,λ_ h=>?_⟩
   ·have h2:j=code.length\/j=code.length+1:=by omega
    rcases h2 with rfl|rfl
    ·rw[List.getElem_append_right (by omega)];simp only[Nat.sub_self,List.getElem_cons_zero];exact .inr ⟨by simp,by simp;omega,rfl⟩
    ·rw[List.getElem_append_right (by omega)];simp only[Nat.add_sub_cancel_left,List.getElem_cons_succ,List.getElem_cons_zero];exact .inl ⟨(aI (p:=0) (q:=0) rfl).2 ⟨rfl,rfl⟩,by simp⟩
   ·rw[List.getElem_append_left h];exact hB.ins _ (w_ h)
  have abf:(code++[(⟨11,(code.length:Int)+2,0⟩:dX),⟨5,0,0⟩]).length<=10:=(by first|omega|(simp only[List.length_append,List.length_cons,List.length_nil];omega))
  have abg:code.length<=(code++[(⟨11,(code.length:Int)+2,0⟩:dX),⟨5,0,0⟩]).length:=(by first|omega|(simp only[List.length_append,List.length_cons,List.length_nil];omega))
  have Lb:0<=((code.length:Int)+2:Int)/\((code.length:Int)+2:Int) < ((code++[(⟨11,(code.length:Int)+2,0⟩:dX),⟨5,0,0⟩]).length:Int)+2:=(by first|omega|(simp only[List.length_append,List.length_cons,List.length_nil];omega))
  have el0:=hB.emp;have R9:∀ x∈(([⟨kf,code.length,(code.length:Int)+1,1⟩]:List mU):List mU),(0<=x.lo/\x.lo < x.hi/\x.hi<=((code++[(⟨11,(code.length:Int)+2,0⟩:dX),⟨5,0,0⟩]).length:Int)/\0<=x.to/\x.to < ((code++[(⟨11,(code.length:Int)+2,0⟩:dX),⟨5,0,0⟩]).length:Int))/\x.cls=1:=λx hx=>by
   rw[List.mem_singleton.1 hx];refine⟨⟨?_,?_,?_,?_,?_⟩,rfl⟩<;>(try simp only[List.length_append,List.length_cons,List.length_nil])<;>(try dsimp only)<;>omega
  refine fm [0,4,5,6,9,10,11,12,13] [4,5,6] (λyy:Nat × Heap × List dX=>yy.1<=code.length/\kR g yy.2.1 yy.2.2 pX kX BX el pe ke Be ([⟨kf,code.length,(code.length:Int)+1,1⟩]:List mU) (.slice (some ⟨bk,0,none⟩) 1 1) [bk]/\bD yy.2.1 bb vb (q2+1)/\yy.2.2.length=(code++[(⟨11,(code.length:Int)+2,0⟩:dX),⟨5,0,0⟩]).length/\(∀ j (h:j < yy.2.2.length),(j < yy.1\/code.length<=j->Good u m (((code++[(⟨11,(code.length:Int)+2,0⟩:dX),⟨5,0,0⟩]).length:Int)+2) yy.2.2[j])/\(yy.1<=j->j < code.length->uT u m yy.2.2[j]))) (λyy=>code.length-yy.1)
   (λyy=>([.v (.pointer (some ⟨bb,0,none⟩)),.l 4 0,.l 5 0,.l 6 0,.v (.slice pX (code++[(⟨11,(code.length:Int)+2,0⟩:dX),⟨5,0,0⟩]).length kX),.v (.slice pe el.length ke),.v (.int .i64 code.length),.v (.int .i64 ((code.length:Int)+2)),.v (.int .i64 yy.1)],
    [some [.slice cp u.J.length cc,.slice q u.methods.length d],some [.int .i64 m.cls,.int .i64 m.eL,.slice ap m.args.length ac,.int .i64 m.out,.int .i64 m.locals,.slice none 0 0,.slice none 0 0,(.slice (some ⟨bk,0,none⟩) 1 1)],some [.int .i64 0,.int .i64 0,.slice none 0 0,.int .i64 0,.int .i64 0,.slice none 0 0,.slice none 0 0,.slice none 0 0]],cN yy.2.1 bb vb (q2+1)))
   (0,g3,code++[(⟨11,(code.length:Int)+2,0⟩:dX),⟨5,0,0⟩]) ⟨Nat.zero_le _,hF,r3,rfl,hX⟩ rfl ?_
  rintro⟨i,g4,c4⟩ ⟨hi,hF,r4,n4,h4⟩;simp only at hi hF r4 n4 h4 ⊢;conv=>whnf
  apply ax<;>intro gi;all_goals conv=>whnf
  ·have cG:i < c4.length:=by omega
   have AE:=(h4 i cG).2 (Nat.le_refl _) (by omega);have hbd:=Gv AE ok hn (by omega);have f:=hF.at cG;obtain⟨b4,FA,e4,pre,post,t4,Bd,kB,put⟩:=f;have Yq:b4≠bb:=λe=>by have:=r4.free;rw[<-e,Bd]at this;cases this
   have NL:eG (cN g4 bb vb (q2+1)) b4 (0+i*3) 3=some (dx c4[i]):=bK (bh r4.free) e4;have ja:rd (cN g4 bb vb (q2+1)) b4 (0+i*3+1)=some (.int .i64 c4[i].a):=aK NL (i:=1) rfl;have nh:∀ y,Good u m (((code++[(⟨11,(code.length:Int)+2,0⟩:dX),⟨5,0,0⟩]).length:Int)+2) y->∀ j (h:j < (c4.set i y).length),(j < i+1\/code.length<=j->Good u m (((code++[(⟨11,(code.length:Int)+2,0⟩:dX),⟨5,0,0⟩]).length:Int)+2) (c4.set i y)[j])/\(i+1<=j->j < code.length->uT u m (c4.set i y)[j]):=λy hy j hj=>by
    rw[List.length_set]at hj;by_cases e:i=j
    ·subst e;refine⟨λ_=>by simpa using hy,λh=>by omega⟩
    ·rw[List.getElem_set_ne e];exact⟨λh=>(h4 j hj).1 (by omega),λh1 h2=>(h4 j hj).2 (by omega) h2⟩
   have dZ:Good u m (((code++[(⟨11,(code.length:Int)+2,0⟩:dX),⟨5,0,0⟩]).length:Int)+2) c4[i]->∀ j (h:j < c4.length),(j < i+1\/code.length<=j->Good u m (((code++[(⟨11,(code.length:Int)+2,0⟩:dX),⟨5,0,0⟩]).length:Int)+2) c4[j])/\(i+1<=j->j < code.length->uT u m c4[j]):=λhy j hj=>by
    by_cases e:i=j
    ·subst e;exact⟨λ_=>hy,λh=>by omega⟩
    ·exact⟨λh=>(h4 j hj).1 (by omega),λh1 h2=>(h4 j hj).2 (by omega) h2⟩
   generalize LN:c4[i]=xi at AE hbd e4 NL ja dZ Bd;obtain⟨xk,xa,xb⟩:=xi;unfold dx at e4 NL;refine aq ?_;conv=>whnf
   refine aO FA ?_;conv=>whnf
   refine dK NL ?_;conv=>whnf
   refine Ro r4 (jY xk xa xb g4) ?_;conv=>whnf
   cases hj:dJ ⟨xk,xa,xb⟩
   ·conv=>whnf
    refine aj ?_;conv=>whnf
    unfold dJ at hj;have hj:=of_decide_eq_false hj;refine dm (i+1,g4,c4) ⟨by simp only;omega,hF,r4,n4,dZ ?_⟩ (by simp only;omega) rfl;rcases AE with ⟨h1,_⟩|⟨h1,_⟩
    ·exact .inl ⟨h1,hj⟩
    ·exact absurd h1 (by simp only at hj ⊢;omega)
   ·unfold dJ at hj;have hj:=of_decide_eq_true hj;have R6 : -3<=xa/\xa<=-1/\xb=0:=by
     rcases AE with ⟨_,h1,_⟩|⟨_,h1,h2⟩
     ·exact absurd hj h1
     ·simp only at h1 h2;omega
    conv=>whnf
    refine aq ?_;conv=>whnf
    refine aO FA ?_;conv=>whnf
    refine ld ja ?_;conv=>whnf
    refine fX (by simp only;omega) ?_;conv=>whnf
    refine aq ?_;conv=>whnf
    refine aO FA ?_;conv=>whnf
    refine ld ja ?_;conv=>whnf
    have fin:∀(to:Int),0<=to/\to < ((code++[(⟨11,(code.length:Int)+2,0⟩:dX),⟨5,0,0⟩]).length:Int)+2->kR g (g4.set b4 (.cells (pre++dx ⟨xk,to,xb⟩++post).toArray t4 (0,0))) (c4.set i ⟨xk,to,xb⟩) pX kX BX el pe ke Be ([⟨kf,code.length,(code.length:Int)+1,1⟩]:List mU) (.slice (some ⟨bk,0,none⟩) 1 1) [bk]/\bD (g4.set b4 (.cells (pre++dx ⟨xk,to,xb⟩++post).toArray t4 (0,0))) bb vb (q2+1)/\(∀ j (h:j < (c4.set i ⟨xk,to,xb⟩).length),(j < i+1\/code.length<=j->Good u m (((code++[(⟨11,(code.length:Int)+2,0⟩:dX),⟨5,0,0⟩]).length:Int)+2) (c4.set i ⟨xk,to,xb⟩)[j])/\(i+1<=j->j < code.length->uT u m (c4.set i ⟨xk,to,xb⟩)[j])):=λto ht=>by
     have XN:=put ⟨xk,to,xb⟩ _ rfl;exact⟨XN,r.to XN.le (by simp[Heap.set,r4.free];intro e;exact absurd e.symm Yq) (by omega),nh _ (.inr ⟨hj,ht,R6.2.2⟩)⟩
    have wr:∀ to:Int,ep (pre++dx ⟨xk,xa,xb⟩++post) (0+i*3+1) [.int .i64 to]=pre++dx ⟨xk,to,xb⟩++post:=λto=>by
     rw[nu (i:=1) (by omega) (by simp[dx])];rfl
    apply ax<;>intro g5;all_goals conv=>whnf
    ·apply ax<;>intro g6;all_goals conv=>whnf
     ·have he:=Gy (a:=(0-xa)*5+i) (n:=el.length) (by omega) (by omega);have nV:(((0-xa)*5+(i:Int)).tmod el.length).toNat < el.length:=by omega
      have f:=wN hF.oe nV;obtain⟨be,hpe,hle⟩:=f;have DX:=el0 _ (w_ nV);have Il:∃ to,el[(((0-xa)*5+(i:Int)).tmod el.length).toNat]=to:=⟨_,rfl⟩
      obtain⟨to,Il⟩:=Il;rw[Il]at DX hle;have Ei:rd (cN g4 bb vb (q2+1)) be (0+(((0-xa)*5+(i:Int)).tmod el.length).toNat*1)=some (.int .i64 to):=aX (bh r4.free) hle;refine aq ?_;conv=>whnf
      refine aO FA ?_;conv=>whnf
      refine ld ja ?_;conv=>whnf
      refine aj ?_;conv=>whnf
      refine aj ?_;conv=>whnf
      refine aj ?_;conv=>whnf
      refine aq ?_;conv=>whnf
      refine ob he ?_;conv=>whnf
      refine aO hpe ?_;conv=>whnf
      refine ld Ei ?_;conv=>whnf
      refine aq ?_;conv=>whnf
      refine aO FA ?_;conv=>whnf
      refine mQ r4.free Bd (by simp[dx];omega) (wr (to)) ?_;conv=>whnf
      refine aj ?_;conv=>whnf
      have ff:=fin (to) ⟨by omega,by omega⟩;exact dm (i+1,_,c4.set i ⟨xk,to,xb⟩) ⟨by simp only;omega,ff.1,ff.2.1,by simp only[List.length_set];exact n4,ff.2.2⟩ (by simp only;omega) rfl
     ·have y9:=Lb;refine aq ?_;conv=>whnf
      refine aO FA ?_;conv=>whnf
      refine mQ r4.free Bd (by simp[dx];omega) (wr ((code.length:Int)+2)) ?_;conv=>whnf
      refine aj ?_;conv=>whnf
      have ff:=fin ((code.length:Int)+2) y9;exact dm (i+1,_,c4.set i ⟨xk,(code.length:Int)+2,xb⟩) ⟨by simp only;omega,ff.1,ff.2.1,by simp only[List.length_set];exact n4,ff.2.2⟩ (by simp only;omega) rfl
    ·have y9:=Lb;refine aq ?_;conv=>whnf
     refine aO FA ?_;conv=>whnf
     refine mQ r4.free Bd (by simp[dx];omega) (wr ((code.length:Int)+2)) ?_;conv=>whnf
     refine aj ?_;conv=>whnf
     have ff:=fin ((code.length:Int)+2) y9;exact dm (i+1,_,c4.set i ⟨xk,(code.length:Int)+2,xb⟩) ⟨by simp only;omega,ff.1,ff.2.1,by simp only[List.length_set];exact n4,ff.2.2⟩ (by simp only;omega) rfl
  ·have nZ:∀ x∈c4,Good u m (((code++[(⟨11,(code.length:Int)+2,0⟩:dX),⟨5,0,0⟩]).length:Int)+2) x:=λx hx=>by
    obtain⟨j,hj,rfl⟩:=List.mem_iff_getElem.1 hx;exact(h4 j hj).1 (by omega)
   have Lc:∀ x∈(([⟨kf,code.length,(code.length:Int)+1,1⟩]:List mU):List mU),(0<=x.lo/\x.lo < x.hi/\x.hi<=100/\0<=x.to/\x.to < 100)/\x.cls=1:=λx hx=>by
    have:=R9 x hx;omega
   have hm4:=pN hF h0 hH DN ha (iW _) Lc;refine iC r4 (yX _ _ r4 (by omega) (hm4.le (aJ _ _))) (λv g5 q5 l5 r5 q50 q51 hA=>?_);obtain⟨b5,x,y,rfl,qw,e5,Jb⟩:=hA;have hF5:=hF.aG l5;have Mb:eH u {m with code:=c4++[x,y],aL:=[],catches:=([⟨kf,code.length,(code.length:Int)+1,1⟩]:List mU)} x/\eH u {m with code:=c4++[x,y],aL:=[],catches:=([⟨kf,code.length,(code.length:Int)+1,1⟩]:List mU)} y:=by
    have h2:=ok.1;rcases Jb with ⟨rfl,rfl⟩|⟨rfl,rfl|⟨w,rfl,w0,w1⟩⟩
    ·exact⟨(aI (p:=5) (q:=0) rfl).2 ⟨by unfold bA;simp;omega,rfl⟩,(aI (p:=0) (q:=0) rfl).2 ⟨rfl,rfl⟩⟩
    ·exact⟨(aI (p:=0) (q:=0) rfl).2 ⟨rfl,rfl⟩,(aI (p:=0) (q:=0) rfl).2 ⟨rfl,rfl⟩⟩
    ·exact⟨(aI (p:=1) (q:=0) rfl).2 ⟨by unfold bA;simp[eT];omega,rfl⟩,(aI (p:=0) (q:=0) rfl).2 ⟨rfl,rfl⟩⟩
   have ldr:eG (cN g5 bb vb q5) b5 0 (2*3)=some (dx x++dx y):=by
    refine bK (bh r5.free) ?_;rw[bP e5 _ _ (by simp[dx])];rfl
   conv=>whnf
   refine Gx ldr ?_;conv=>whnf
   refine hF5.app r r5 [x,y] (by omega) rfl rfl rfl (by omega) (by simp) rfl (Nat.le_of_ble_eq_true rfl) (λp6 k6 g6 B6 HX r6=>?_);have f6:=As HX (by simp);obtain⟨bc6,rfl,Rx⟩:=f6;conv=>whnf
   have BY:∀ z∈c4++[x,y],eH u {m with code:=c4++[x,y],aL:=[],catches:=([⟨kf,code.length,(code.length:Int)+1,1⟩]:List mU)} z:=λz hz=>by
    simp only[List.mem_append,List.mem_cons,List.not_mem_nil,or_false]at hz;rcases hz with hz|rfl|rfl
    ·exact(nZ z hz).ins rfl (by simp[n4])
    ·exact Mb.1
    ·exact Mb.2
   have L7:=ww h0 HX.le;have l6:(since g0 g).le (since g0 g6):=bW g0 HX.le;have mw:=DM HX h0 (by simp;omega) (λz hz=>uV (BY z hz) ok hn (by simp only;omega) (by simp;omega));have Ry:=pN HX h0 hH DN ha mw Lc;have hM:Q9 u {m with code:=c4++[x,y],aL:=[],catches:=([⟨kf,code.length,(code.length:Int)+1,1⟩]:List mU)}:=⟨hH,by simp;omega,BY,by
    refine⟨by simp,λz hz=>?_⟩;have Pz:=R9 z hz;have hc:=ok.1;have XO:(c4++[x,y]).length=c4.length+2:=by simp
    exact⟨by simp only[XO];omega,by simp only[XO];omega,by omega,by rw[Pz.2];exact tV ok (by omega) (by omega)⟩⟩
   refine ND r6 L7 (qQ _ u {m with code:=c4++[x,y],aL:=[],catches:=([⟨kf,code.length,(code.length:Int)+1,1⟩]:List mU)} (since g0 g6) ap (some ⟨bc6,0,none⟩) none (some ⟨bk,0,none⟩) m.args.length _ 0 1 ac k6 0 1 (iJ.le l6) Ry hV hM) (λv g7 l7 r7 hr=>?_);obtain⟨b7,c7,A,rfl,aA,nA,vA⟩:=hr;conv=>whnf
   obtain⟨a8,c8,s8,k8,KM,w1,w2,w3,w4,w5,w6,_,w8⟩:=Ry;simp only[List.cons.injEq,and_true,true_and]at KM;obtain⟨rfl,rfl,rfl,rfl⟩:=KM;have ls:=bW g0 l7;have nA':A.length=c4.length+2:=by rw[nA];simp
   refine⟨_,_,rfl,ww HX.le l7,r7.free,by omega,by omega,_,{m with code:=c4++[x,y],aL:=A,catches:=([⟨kf,code.length,(code.length:Int)+1,1⟩]:List mU)},rfl,⟨rfl,rfl,rfl,rfl,rfl⟩,⟨_,_,_,_,rfl,w1,w2,w3,w4,w5.le ls,w6.le ls (λ_ _ hx=>hx),aA.yP (by omega),w8.le ls (λ_ _ hx=>hx)⟩,⟨⟨hM.head,hM.len,hM.code,hM.cat⟩,nA,vA⟩,⟨_,_,_,_,_,rfl,⟨pM Rx,bp l6 aA.fr⟩,.inr ⟨_,rfl,rfl⟩⟩⟩
 have hX:∀ j (h:j < code.length),(j < 0\/code.length<=j->Good u m ((code.length:Int)+2) code[j])/\(0<=j->j < code.length->uT u m code[j]):=λj hj=>⟨λh=>by omega,λ_ h=>hB.ins _ (w_ h)⟩
 all_goals
  have abf:(code).length<=10:=(by first|omega|(simp only[List.length_append,List.length_cons,List.length_nil];omega))
  have abg:code.length<=(code).length:=(by first|omega|(simp only[List.length_append,List.length_cons,List.length_nil];omega))
  have Lb:0<=((code.length:Int):Int)/\((code.length:Int):Int) < ((code).length:Int)+2:=(by first|omega|(simp only[List.length_append,List.length_cons,List.length_nil];omega))
  have el0:=hB.emp;have R9:∀ x∈(([]:List mU):List mU),(0<=x.lo/\x.lo < x.hi/\x.hi<=((code).length:Int)/\0<=x.to/\x.to < ((code).length:Int))/\x.cls=1:=λx hx=>by
   cases hx
  refine fm [0,4,5,6,9,10,11,12,13] [4,5,6] (λyy:Nat × Heap × List dX=>yy.1<=code.length/\kR g yy.2.1 yy.2.2 pc kc Bc el pe ke Be ([]:List mU) (.slice none 0 0) []/\bD yy.2.1 bb vb q2/\yy.2.2.length=(code).length/\(∀ j (h:j < yy.2.2.length),(j < yy.1\/code.length<=j->Good u m (((code).length:Int)+2) yy.2.2[j])/\(yy.1<=j->j < code.length->uT u m yy.2.2[j]))) (λyy=>code.length-yy.1)
   (λyy=>([.v (.pointer (some ⟨bb,0,none⟩)),.l 4 0,.l 5 0,.l 6 0,.v (.slice pc (code).length kc),.v (.slice pe el.length ke),.v (.int .i64 code.length),.v (.int .i64 ((code.length:Int))),.v (.int .i64 yy.1)],
    [some [.slice cp u.J.length cc,.slice q u.methods.length d],some [.int .i64 m.cls,.int .i64 m.eL,.slice ap m.args.length ac,.int .i64 m.out,.int .i64 m.locals,.slice none 0 0,.slice none 0 0,(.slice none 0 0)],some [.int .i64 0,.int .i64 0,.slice none 0 0,.int .i64 0,.int .i64 0,.slice none 0 0,.slice none 0 0,.slice none 0 0]],cN yy.2.1 bb vb q2))
   (0,g2,code) ⟨Nat.zero_le _,hF0,r2,rfl,hX⟩ rfl ?_
  rintro⟨i,g4,c4⟩ ⟨hi,hF,r4,n4,h4⟩;simp only at hi hF r4 n4 h4 ⊢;conv=>whnf
  apply ax<;>intro gi;all_goals conv=>whnf
  ·have cG:i < c4.length:=by omega
   have AE:=(h4 i cG).2 (Nat.le_refl _) (by omega);have hbd:=Gv AE ok hn (by omega);have f:=hF.at cG;obtain⟨b4,FA,e4,pre,post,t4,Bd,kB,put⟩:=f;have Yq:b4≠bb:=λe=>by have:=r4.free;rw[<-e,Bd]at this;cases this
   have NL:eG (cN g4 bb vb q2) b4 (0+i*3) 3=some (dx c4[i]):=bK (bh r4.free) e4;have ja:rd (cN g4 bb vb q2) b4 (0+i*3+1)=some (.int .i64 c4[i].a):=aK NL (i:=1) rfl;have nh:∀ y,Good u m (((code).length:Int)+2) y->∀ j (h:j < (c4.set i y).length),(j < i+1\/code.length<=j->Good u m (((code).length:Int)+2) (c4.set i y)[j])/\(i+1<=j->j < code.length->uT u m (c4.set i y)[j]):=λy hy j hj=>by
    rw[List.length_set]at hj;by_cases e:i=j
    ·subst e;refine⟨λ_=>by simpa using hy,λh=>by omega⟩
    ·rw[List.getElem_set_ne e];exact⟨λh=>(h4 j hj).1 (by omega),λh1 h2=>(h4 j hj).2 (by omega) h2⟩
   have dZ:Good u m (((code).length:Int)+2) c4[i]->∀ j (h:j < c4.length),(j < i+1\/code.length<=j->Good u m (((code).length:Int)+2) c4[j])/\(i+1<=j->j < code.length->uT u m c4[j]):=λhy j hj=>by
    by_cases e:i=j
    ·subst e;exact⟨λ_=>hy,λh=>by omega⟩
    ·exact⟨λh=>(h4 j hj).1 (by omega),λh1 h2=>(h4 j hj).2 (by omega) h2⟩
   generalize LN:c4[i]=xi at AE hbd e4 NL ja dZ Bd;obtain⟨xk,xa,xb⟩:=xi;unfold dx at e4 NL;refine aq ?_;conv=>whnf
   refine aO FA ?_;conv=>whnf
   refine dK NL ?_;conv=>whnf
   refine Ro r4 (jY xk xa xb g4) ?_;conv=>whnf
   cases hj:dJ ⟨xk,xa,xb⟩
   ·conv=>whnf
    refine aj ?_;conv=>whnf
    unfold dJ at hj;have hj:=of_decide_eq_false hj;refine dm (i+1,g4,c4) ⟨by simp only;omega,hF,r4,n4,dZ ?_⟩ (by simp only;omega) rfl;rcases AE with ⟨h1,_⟩|⟨h1,_⟩
    ·exact .inl ⟨h1,hj⟩
    ·exact absurd h1 (by simp only at hj ⊢;omega)
   ·unfold dJ at hj;have hj:=of_decide_eq_true hj;have R6 : -3<=xa/\xa<=-1/\xb=0:=by
     rcases AE with ⟨_,h1,_⟩|⟨_,h1,h2⟩
     ·exact absurd hj h1
     ·simp only at h1 h2;omega
    conv=>whnf
    refine aq ?_;conv=>whnf
    refine aO FA ?_;conv=>whnf
    refine ld ja ?_;conv=>whnf
    refine fX (by simp only;omega) ?_;conv=>whnf
    refine aq ?_;conv=>whnf
    refine aO FA ?_;conv=>whnf
    refine ld ja ?_;conv=>whnf
    have fin:∀(to:Int),0<=to/\to < ((code).length:Int)+2->kR g (g4.set b4 (.cells (pre++dx ⟨xk,to,xb⟩++post).toArray t4 (0,0))) (c4.set i ⟨xk,to,xb⟩) pc kc Bc el pe ke Be ([]:List mU) (.slice none 0 0) []/\bD (g4.set b4 (.cells (pre++dx ⟨xk,to,xb⟩++post).toArray t4 (0,0))) bb vb q2/\(∀ j (h:j < (c4.set i ⟨xk,to,xb⟩).length),(j < i+1\/code.length<=j->Good u m (((code).length:Int)+2) (c4.set i ⟨xk,to,xb⟩)[j])/\(i+1<=j->j < code.length->uT u m (c4.set i ⟨xk,to,xb⟩)[j])):=λto ht=>by
     have XN:=put ⟨xk,to,xb⟩ _ rfl;exact⟨XN,r.to XN.le (by simp[Heap.set,r4.free];intro e;exact absurd e.symm Yq) (by omega),nh _ (.inr ⟨hj,ht,R6.2.2⟩)⟩
    have wr:∀ to:Int,ep (pre++dx ⟨xk,xa,xb⟩++post) (0+i*3+1) [.int .i64 to]=pre++dx ⟨xk,to,xb⟩++post:=λto=>by
     rw[nu (i:=1) (by omega) (by simp[dx])];rfl
    apply ax<;>intro g5;all_goals conv=>whnf
    ·apply ax<;>intro g6;all_goals conv=>whnf
     ·have he:=Gy (a:=(0-xa)*5+i) (n:=el.length) (by omega) (by omega);have nV:(((0-xa)*5+(i:Int)).tmod el.length).toNat < el.length:=by omega
      have f:=wN hF.oe nV;obtain⟨be,hpe,hle⟩:=f;have DX:=el0 _ (w_ nV);have Il:∃ to,el[(((0-xa)*5+(i:Int)).tmod el.length).toNat]=to:=⟨_,rfl⟩
      obtain⟨to,Il⟩:=Il;rw[Il]at DX hle;have Ei:rd (cN g4 bb vb q2) be (0+(((0-xa)*5+(i:Int)).tmod el.length).toNat*1)=some (.int .i64 to):=aX (bh r4.free) hle;refine aq ?_;conv=>whnf
      refine aO FA ?_;conv=>whnf
      refine ld ja ?_;conv=>whnf
      refine aj ?_;conv=>whnf
      refine aj ?_;conv=>whnf
      refine aj ?_;conv=>whnf
      refine aq ?_;conv=>whnf
      refine ob he ?_;conv=>whnf
      refine aO hpe ?_;conv=>whnf
      refine ld Ei ?_;conv=>whnf
      refine aq ?_;conv=>whnf
      refine aO FA ?_;conv=>whnf
      refine mQ r4.free Bd (by simp[dx];omega) (wr (to)) ?_;conv=>whnf
      refine aj ?_;conv=>whnf
      have ff:=fin (to) ⟨by omega,by omega⟩;exact dm (i+1,_,c4.set i ⟨xk,to,xb⟩) ⟨by simp only;omega,ff.1,ff.2.1,by simp only[List.length_set];exact n4,ff.2.2⟩ (by simp only;omega) rfl
     ·have y9:=Lb;refine aq ?_;conv=>whnf
      refine aO FA ?_;conv=>whnf
      refine mQ r4.free Bd (by simp[dx];omega) (wr ((code.length:Int))) ?_;conv=>whnf
      refine aj ?_;conv=>whnf
      have ff:=fin ((code.length:Int)) y9;exact dm (i+1,_,c4.set i ⟨xk,(code.length:Int),xb⟩) ⟨by simp only;omega,ff.1,ff.2.1,by simp only[List.length_set];exact n4,ff.2.2⟩ (by simp only;omega) rfl
    ·have y9:=Lb;refine aq ?_;conv=>whnf
     refine aO FA ?_;conv=>whnf
     refine mQ r4.free Bd (by simp[dx];omega) (wr ((code.length:Int))) ?_;conv=>whnf
     refine aj ?_;conv=>whnf
     have ff:=fin ((code.length:Int)) y9;exact dm (i+1,_,c4.set i ⟨xk,(code.length:Int),xb⟩) ⟨by simp only;omega,ff.1,ff.2.1,by simp only[List.length_set];exact n4,ff.2.2⟩ (by simp only;omega) rfl
  ·have nZ:∀ x∈c4,Good u m (((code).length:Int)+2) x:=λx hx=>by
    obtain⟨j,hj,rfl⟩:=List.mem_iff_getElem.1 hx;exact(h4 j hj).1 (by omega)
   have Lc:∀ x∈(([]:List mU):List mU),(0<=x.lo/\x.lo < x.hi/\x.hi<=100/\0<=x.to/\x.to < 100)/\x.cls=1:=λx hx=>by
    have:=R9 x hx;omega
   have hm4:=pN hF h0 hH DN ha (iW _) Lc;refine iC r4 (yX _ _ r4 (by omega) (hm4.le (aJ _ _))) (λv g5 q5 l5 r5 q50 q51 hA=>?_);obtain⟨b5,x,y,rfl,qw,e5,Jb⟩:=hA;have hF5:=hF.aG l5;have Mb:eH u {m with code:=c4++[x,y],aL:=[],catches:=([]:List mU)} x/\eH u {m with code:=c4++[x,y],aL:=[],catches:=([]:List mU)} y:=by
    have h2:=ok.1;rcases Jb with ⟨rfl,rfl⟩|⟨rfl,rfl|⟨w,rfl,w0,w1⟩⟩
    ·exact⟨(aI (p:=5) (q:=0) rfl).2 ⟨by unfold bA;simp;omega,rfl⟩,(aI (p:=0) (q:=0) rfl).2 ⟨rfl,rfl⟩⟩
    ·exact⟨(aI (p:=0) (q:=0) rfl).2 ⟨rfl,rfl⟩,(aI (p:=0) (q:=0) rfl).2 ⟨rfl,rfl⟩⟩
    ·exact⟨(aI (p:=1) (q:=0) rfl).2 ⟨by unfold bA;simp[eT];omega,rfl⟩,(aI (p:=0) (q:=0) rfl).2 ⟨rfl,rfl⟩⟩
   have ldr:eG (cN g5 bb vb q5) b5 0 (2*3)=some (dx x++dx y):=by
    refine bK (bh r5.free) ?_;rw[bP e5 _ _ (by simp[dx])];rfl
   conv=>whnf
   refine Gx ldr ?_;conv=>whnf
   refine hF5.app r r5 [x,y] (by omega) rfl rfl rfl (by omega) (by simp) rfl (Nat.le_of_ble_eq_true rfl) (λp6 k6 g6 B6 HX r6=>?_);have f6:=As HX (by simp);obtain⟨bc6,rfl,Rx⟩:=f6;conv=>whnf
   have BY:∀ z∈c4++[x,y],eH u {m with code:=c4++[x,y],aL:=[],catches:=([]:List mU)} z:=λz hz=>by
    simp only[List.mem_append,List.mem_cons,List.not_mem_nil,or_false]at hz;rcases hz with hz|rfl|rfl
    ·exact(nZ z hz).ins rfl (by simp[n4])
    ·exact Mb.1
    ·exact Mb.2
   have L7:=ww h0 HX.le;have l6:(since g0 g).le (since g0 g6):=bW g0 HX.le;have mw:=DM HX h0 (by simp;omega) (λz hz=>uV (BY z hz) ok hn (by simp only;omega) (by simp;omega));have Ry:=pN HX h0 hH DN ha mw Lc;have hM:Q9 u {m with code:=c4++[x,y],aL:=[],catches:=([]:List mU)}:=⟨hH,by simp;omega,BY,by
    refine⟨by simp,λz hz=>?_⟩;have Pz:=R9 z hz;have hc:=ok.1;have XO:(c4++[x,y]).length=c4.length+2:=by simp
    exact⟨by simp only[XO];omega,by simp only[XO];omega,by omega,by rw[Pz.2];exact tV ok (by omega) (by omega)⟩⟩
   refine ND r6 L7 (qQ _ u {m with code:=c4++[x,y],aL:=[],catches:=([]:List mU)} (since g0 g6) ap (some ⟨bc6,0,none⟩) none none m.args.length _ 0 0 ac k6 0 0 (iJ.le l6) Ry hV hM) (λv g7 l7 r7 hr=>?_);obtain⟨b7,c7,A,rfl,aA,nA,vA⟩:=hr;conv=>whnf
   obtain⟨a8,c8,s8,k8,KM,w1,w2,w3,w4,w5,w6,_,w8⟩:=Ry;simp only[List.cons.injEq,and_true,true_and]at KM;obtain⟨rfl,rfl,rfl,rfl⟩:=KM;have ls:=bW g0 l7;have nA':A.length=c4.length+2:=by rw[nA];simp
   refine⟨_,_,rfl,ww HX.le l7,r7.free,by omega,by omega,_,{m with code:=c4++[x,y],aL:=A,catches:=([]:List mU)},rfl,⟨rfl,rfl,rfl,rfl,rfl⟩,⟨_,_,_,_,rfl,w1,w2,w3,w4,w5.le ls,w6.le ls (λ_ _ hx=>hx),aA.yP (by omega),w8.le ls (λ_ _ hx=>hx)⟩,⟨⟨hM.head,hM.len,hM.code,hM.cat⟩,nA,vA⟩,⟨_,_,_,_,_,rfl,⟨pM Rx,bp l6 aA.fr⟩,.inl ⟨rfl,rfl⟩⟩⟩
def HY (k:Int) (A:List dH):Prop:=∀ s∈A,s.told=true->(s.locals.length:Int)=k
theorem qN.abh {n:Nat} {k:Int} {A:List dH} (h:qN n k A) (hk:0<=k):HY k A:=λs hs ht=>by
 have:=(h s hs ht).loc;omega
structure oz (h:Heap) (b:Nat) (rec:List Value) (m:cB):Prop where
 ex:∃ a c s k,rec=[.int .i64 m.cls,.int .i64 m.eL,a,.int .i64 m.out,.int .i64 m.locals,c,s,k]/\cL m.cls/\cL m.eL/\cL m.out/\cL m.locals /\
  (sq (aW h b) a m.args/\m.args.length<=100)/\Row 3 CH h c m.code/\Row 3 lV h s m.aL/\Row 4 CI h k m.catches /\
  ∀ p n cc,s=.slice p n cc->n=0\/∃ bs off,p=some ⟨bs,off,none⟩/\bs≠b
theorem oz.toR {h:Heap} {b:Nat} {rec:List Value} {m:cB} (hm:oz h b rec m):ee h rec m:=by
 obtain⟨a,c,s,k,e,i1,i2,i3,i4,h1,h2,h3,h4,_⟩:=hm.ex;exact⟨a,c,s,k,e,i1,i2,i3,i4,(h1.1.ints (by omega)).le (gF h b),h2,h3,h4⟩
theorem oz.le {h h':Heap} {b:Nat} {rec:List Value} {m:cB} (hl:h.le h') (hm:oz h b rec m):oz h' b rec m:=by
 obtain⟨a,c,s,k,e,i1,i2,i3,i4,h1,h2,h3,h4,h5⟩:=hm.ex;exact⟨a,c,s,k,e,i1,i2,i3,i4,⟨h1.1.le (bT b hl),h1.2⟩,h2.le hl (λ_ _ hx=>hx),h3.le hl (λ_ _ hx=>hx.le hl),h4.le hl (λ_ _ hx=>hx),h5⟩
structure FB (m m':cB):Prop where
 cls:m'.cls=m.cls
 eL:m'.eL=m.eL
 out:m'.out=m.out
 locals:m'.locals=m.locals
 code:m'.code.length=m.code.length
 aL:m'.aL.length=m.aL.length
 catches:m'.catches.length=m.catches.length
 abi:∀ k,HY k m.aL->HY k m'.aL
def XP (s s':dH):Prop:=s'.told=s.told/\s'.locals.length=s.locals.length
theorem DO {g g':Heap} (ai:wX g g') {p:Option Addr} {n c:Nat} {l:List dH} (hr:Row 3 lV g (.slice p n c) l) (U:n=0\/∃ bs off,p=some ⟨bs,off,none⟩/\g' bs=g bs) :
  ∃ l',Row 3 lV g' (.slice p n c) l'/\l'.length=l.length/\∀ k,HY k l->HY k l':=by
 obtain⟨h1,p',c',e,h2,h3⟩:=hr;simp only[Value.slice.injEq]at e;obtain⟨rfl,rfl,rfl⟩:=e;rcases h3 with rfl|⟨b,off,rfl,hx⟩
 ·exact⟨[],⟨by simp,p,c,rfl,by simp,.inl rfl⟩,rfl,λk h=>h⟩
 ·rcases U with U|⟨bs,dU,e,zA⟩
  ·have:l=[]:=List.eq_nil_of_length_eq_zero U;subst this;exact⟨[],⟨by simp,_,c,rfl,by simp,.inl rfl⟩,rfl,λk h=>h⟩
  ·simp only[Option.some.injEq,Addr.mk.injEq,and_true]at e;obtain⟨rfl,rfl⟩:=e;obtain⟨l',hl,rM⟩:=js (Q:=λi (x:dH)=>∀ h:i < l.length,XP l[i] x/\∃ vs,eG g' b (off+i*3) 3=some vs/\lV g' vs x) l.length (λi hi=>by
    obtain⟨vs,e1,l1,l2,rfl,i1,i2⟩:=hx i l[i] (by simp[hi]);obtain⟨m1,j1,n1⟩:=fL ai i1;obtain⟨m2,j2,_⟩:=fL ai i2;exact⟨⟨l[i].told,m1,m2⟩,λ_=>⟨⟨rfl,n1⟩,_,by rw[yo zA];exact e1,_,_,rfl,j1,j2⟩⟩)
   refine⟨l',⟨by omega,_,c,by rw[hl],by omega,.inr ⟨b,off,rfl,λi x hi=>?_⟩⟩,hl,λk hk s hs ht=>?_⟩
   ·have cG:i < l.length:=by have:=(List.getElem?_eq_some_iff.1 hi).1;omega
    exact(rM i x hi cG).2
   ·obtain⟨i,hi⟩:=List.getElem?_of_mem hs;have cG:i < l.length:=by have:=(List.getElem?_eq_some_iff.1 hi).1;omega
    have:=(rM i s hi cG).1;rw[this.2];exact hk _ (w_ cG) (by rw[<-this.1];exact ht)
theorem oz.over {h h':Heap} {b:Nat} {rec:List Value} {m:cB} (hm:oz h b rec m) (ai:wX h h') (ho:∀ x,x≠b->h' x=h x):∃ m',oz h' b rec m'/\FB m m'/\m'.args=m.args:=by
 obtain⟨a,c,s,k,e,i1,i2,i3,i4,h1,h2,h3,h4,h5⟩:=hm.ex;have hh:aW h' b=aW h b:=by
  funext x
  unfold aW;by_cases hx:x=b
  ·simp[hx]
  ·simp[hx,ho x hx]
 obtain⟨l2,r2,n2⟩:=iD (xu ai) h2;obtain⟨l4,r4,n4⟩:=iD (xw ai) h4;obtain⟨p,cc,rfl,_,_⟩:=h3.len;obtain⟨l3,r3,n3,v3⟩:=DO ai h3 ((h5 _ _ _ rfl).imp id λ⟨bs,off,e1,e2⟩=>⟨bs,off,e1,ho bs e2⟩);exact⟨⟨m.cls,m.eL,m.args,m.out,m.locals,l2,l3,l4⟩,⟨a,c,_,k,e,i1,i2,i3,i4,by rw[hh];exact h1,r2,r3,r4,h5⟩,⟨rfl,rfl,rfl,rfl,n2,n3,n4,v3⟩,rfl⟩
structure za (h:Heap) (b c:Nat) (aP:List (List Value)) (A:List cB):Prop where
 own:cn 8 h (.slice (some ⟨b,0,none⟩) A.length c) aP [b]
 len:aP.length=A.length
 each:∀ i (h1:i < aP.length) (h2:i < A.length),oz h b aP[i] A[i]
theorem za.le {h h':Heap} {b c:Nat} {aP:List (List Value)} {A:List cB} (r:za h b c aP A) (hl:h.le h'):za h' b c aP A :=
 ⟨r.own.aG (cC.of_le hl _),r.len,λi h1 h2=>(r.each i h1 h2).le hl⟩
theorem za.yP {h:Heap} {b c:Nat} {aP:List (List Value)} {A:List cB} (r:za h b c aP A) (hl:A.length<=1000):Row 8 ee h (.slice (some ⟨b,0,none⟩) A.length c) A:=by
 obtain⟨hx,⟨he,_⟩|⟨b',c',rest,t,he,hc,U,uo,_⟩⟩:=r.own
 ·cases he
 simp only[Value.slice.injEq,Option.some.injEq,Addr.mk.injEq]at he;obtain⟨⟨rfl,_⟩,hn,rfl⟩:=he;refine⟨by omega,_,_,rfl,by omega,.inr ⟨b,0,rfl,λi x hi=>?_⟩⟩;obtain⟨h2,rfl⟩:=List.getElem?_eq_some_iff.1 hi;have h1:i < aP.length:=by rw[r.len];exact h2
 refine⟨aP[i],?_,(r.each i h1 h2).toR⟩;have fV:(aP.take i).flatten.length=i*8:=by
  rw[bQ (sz:=8)]
  ·rw[List.length_take,Nat.min_eq_left (by omega)]
  ·intro y hy;exact hx y (List.mem_of_mem_take hy)
 have BW:aP.flatten++rest=(aP.take i).flatten++(aP[i]++((aP.drop (i+1)).flatten++rest)):=by
  have e:aP=aP.take i++aP[i]::aP.drop (i+1):=by rw[<-List.drop_eq_getElem_cons h1,List.take_append_drop]
  have e2:=congrArg List.flatten e;rw[e2];simp only[List.flatten_append,List.flatten_cons,List.append_assoc]
 have xj:aP[i].length=8:=hx _ (w_ _);rw[BW]at U uo;rw[bP U 8 (0+i*8) (by simp only[List.length_append]at uo ⊢;omega),Nat.zero_add,<-fV,List.drop_left,<-xj,List.take_left]
theorem za.at {h:Heap} {b c:Nat} {aP:List (List Value)} {A:List cB} (r:za h b c aP A) {i:Nat} (hi:i < A.length) :
  ∃ hr:i < aP.length,eG h b (0+i*8) 8=some aP[i]/\oz h b aP[i] A[i]/\∃ pre post t,h b=some (.cells (pre++aP[i]++post).toArray t (0,0))/\pre.length=i*8 /\
   ∀ dO h',dO.length=8->h' b=some (.cells (pre++dO++post).toArray t (0,0))->cn 8 h' (.slice (some ⟨b,0,none⟩) A.length c) (aP.set i dO) [b]:=by
 have hr:i < aP.length:=by rw[r.len];exact hi
 have sO:aP=aP.take i++aP[i]::aP.drop (i+1):=by rw[<-List.drop_eq_getElem_cons hr,List.take_append_drop]
 have EI:cn 8 h (.slice (some ⟨b,0,none⟩) A.length c) (aP.take i++aP[i]::aP.drop (i+1)) [b]:=by rw[<-sO];exact r.own
 obtain⟨bl,cl,pre,post,tl,hq,uo,fV,Ra,hB,eF⟩:=EI.at;simp only[Value.slice.injEq,Option.some.injEq,Addr.mk.injEq]at hq;obtain⟨⟨rfl,_⟩,_,rfl⟩:=hq;have kB:pre.length=i*8:=by rw[fV,List.length_take,Nat.min_eq_left (by omega)]
 refine⟨hr,?_,r.each i hr hi,pre,post,tl,uo,kB,λdO h' hl bz=>?_⟩
 ·rw[bP uo 8 (0+i*8) (by simp[kB,Ra])];rw[List.append_assoc,Nat.zero_add,<-kB,List.drop_left,List.take_left' Ra]
 ·have hs:aP.set i dO=aP.take i++dO::aP.drop (i+1):=by rw[List.set_eq_take_append_cons_drop,if_pos hr]
  rw[hs];exact eF h' dO bz hl
def DP (rec:List Value):Prop:=∃(x1 x2 x3 x4:Int) (v1 v2 v3 v4:Value),rec=[.int .i64 x1,.int .i64 x2,v1,.int .i64 x3,.int .i64 x4,v2,v3,v4]/\cL x1/\cL x2/\cL x3/\cL x4/\(∀ x,v1≠.int .i64 x)/\(∀ x,v2≠.int .i64 x)/\(∀ x,v3≠.int .i64 x)/\∀ x,v4≠.int .i64 x
theorem oz.FC {h:Heap} {b:Nat} {rec:List Value} {m:cB} (hm:oz h b rec m):DP rec:=by
 obtain⟨a,c,s,k,e,i1,i2,i3,i4,h1,h2,h3,h4,_⟩:=hm.ex;obtain⟨_,_,rfl⟩:=h1.1.form;obtain⟨_,_,rfl,_⟩:=h2.len;obtain⟨_,_,rfl,_⟩:=h3.len;obtain⟨_,_,rfl,_⟩:=h4.len;exact⟨_,_,_,_,_,_,_,_,e,i1,i2,i3,i4,(λx h=>nomatch h),(λx h=>nomatch h),(λx h=>nomatch h),(λx h=>nomatch h)⟩
theorem uW {g:Heap} {b:Nat} {pre post rec dO:List Value} {t:TypeId} (U:g b=some (.cells (pre++rec++post).toArray t (0,0))) (h1:DP rec) (h2:DP dO):wX g (g.set b (.cells (pre++dO++post).toArray t (0,0))):=by
 obtain⟨x1,x2,x3,x4,v1,v2,v3,v4,rfl,_,_,_,_,n1,n2,n3,n4⟩:=h1;obtain⟨y1,y2,y3,y4,w1,w2,w3,w4,rfl,j1,j2,j3,j4,_⟩:=h2;intro b' off x hx hi;by_cases e:b'=b
 ·subst e;have jO:(g.set b' (.cells (pre++[Value.int .i64 y1,.int .i64 y2,w1,.int .i64 y3,.int .i64 y4,w2,w3,w4]++post).toArray t (0,0))) b'=some (.cells (pre++[Value.int .i64 y1,.int .i64 y2,w1,.int .i64 y3,.int .i64 y4,w2,w3,w4]++post).toArray t (0,0)):=cZ _ _ _;by_cases e1:off < pre.length
  ·refine⟨x,?_,hi⟩;simp only[rd,U,List.getElem?_toArray]at hx;rw[List.append_assoc,List.getElem?_append_left e1]at hx;simp only[rd,jO,List.getElem?_toArray];rw[List.append_assoc,List.getElem?_append_left e1];exact hx
  ·by_cases e2:off < pre.length+8
   ·have MH:∃ j,off=pre.length+j/\j < 8:=⟨off-pre.length,by omega,by omega⟩
    obtain⟨j,rfl,hj⟩:=MH;have ic:∀ i v,[Value.int .i64 x1,.int .i64 x2,v1,.int .i64 x3,.int .i64 x4,v2,v3,v4][i]? = some v->rd g b' (pre.length+i)=some v:=λi v hv=>bG U rfl hv;have same:∀ i v,[Value.int .i64 y1,.int .i64 y2,w1,.int .i64 y3,.int .i64 y4,w2,w3,w4][i]? = some v->rd (g.set b' (.cells (pre++[Value.int .i64 y1,.int .i64 y2,w1,.int .i64 y3,.int .i64 y4,w2,w3,w4]++post).toArray t (0,0))) b' (pre.length+i)=some v:=λi v hv=>bG jO rfl hv;have Jk:j=0\/j=1\/j=2\/j=3\/j=4\/j=5\/j=6\/j=7:=by omega
    rcases Jk with rfl|rfl|rfl|rfl|rfl|rfl|rfl|rfl
    ·exact⟨y1,same 0 _ rfl,j1⟩
    ·exact⟨y2,same 1 _ rfl,j2⟩
    ·rw[ic 2 _ rfl]at hx;exact absurd (Option.some.inj hx) (n1 x)
    ·exact⟨y3,same 3 _ rfl,j3⟩
    ·exact⟨y4,same 4 _ rfl,j4⟩
    ·rw[ic 5 _ rfl]at hx;exact absurd (Option.some.inj hx) (n2 x)
    ·rw[ic 6 _ rfl]at hx;exact absurd (Option.some.inj hx) (n3 x)
    ·rw[ic 7 _ rfl]at hx;exact absurd (Option.some.inj hx) (n4 x)
   ·refine⟨x,?_,hi⟩;simp only[rd,U,List.getElem?_toArray]at hx;simp only[rd,jO,List.getElem?_toArray];rw[List.getElem?_append_right (by simp;omega)]at hx ⊢;simpa using hx
 ·exact⟨x,by rw[mX e];exact hx,hi⟩
theorem za.put {h:Heap} {b c:Nat} {aP:List (List Value)} {A:List cB} (r:za h b c aP A) {i:Nat} (hi:i < A.length) {dO:List Value} {m':cB} {pre post:List Value} {t:TypeId} (hr:i < aP.length) (U:h b=some (.cells (pre++aP[i]++post).toArray t (0,0)))
  (eF:∀ dO h',dO.length=8->h' b=some (.cells (pre++dO++post).toArray t (0,0))->cn 8 h' (.slice (some ⟨b,0,none⟩) A.length c) (aP.set i dO) [b]) (hm:oz h b dO m') :
  ∃ A' m2,za (h.set b (.cells (pre++dO++post).toArray t (0,0))) b c (aP.set i dO) A'/\A'.length=A.length/\(∀ j (h1:j < A.length) (h2:j < A'.length),j≠i->FB A[j] A'[j]/\A'[j].args=A[j].args)/\(∀ h2:i < A'.length,A'[i]=m2)/\FB m' m2/\m2.args=m'.args:=by
 have N4:=uW U (r.each i hr hi).FC hm.FC;have ho:∀ x,x≠b->(h.set b (.cells (pre++dO++post).toArray t (0,0))) x=h x:=λx hx=>by simp[Heap.set,hx]
 have L8:dO.length=8:=by obtain⟨_,_,_,_,_,_,_,_,e,_⟩:=hm.FC;rw[e];rfl
 obtain⟨m2,f2,k2,a2⟩:=hm.over N4 ho;have hq:∀ j,j < A.length->∃ mj,(∀ h1:j < (aP.set i dO).length,oz (h.set b (.cells (pre++dO++post).toArray t (0,0))) b (aP.set i dO)[j] mj)/\(∀ h1:j < A.length,j≠i->FB A[j] mj/\mj.args=A[j].args)/\(j=i->mj=m2):=by
  intro j hj;by_cases e:j=i
  ·subst e;exact⟨m2,λh1=>by simpa using f2,λ_ cD=>absurd rfl cD,λ_=>rfl⟩
  ·obtain⟨mj,f,k,a⟩:=(r.each j (by rw[r.len];exact hj) hj).over N4 ho;refine⟨mj,λh1=>?_,λ_ _=>⟨k,a⟩,λh=>absurd h e⟩;rw[List.getElem_set_ne (λe'=>e e'.symm)];exact f
 obtain⟨A',hA,NM⟩:=js (Q:=λj mj=>(∀ h1:j < (aP.set i dO).length,oz (h.set b (.cells (pre++dO++post).toArray t (0,0))) b (aP.set i dO)[j] mj)/\(∀ h1:j < A.length,j≠i->FB A[j] mj/\mj.args=A[j].args)/\(j=i->mj=m2)) A.length hq;refine⟨A',m2,⟨?_,by rw[List.length_set,hA];exact r.len,λj h1 h2=>(NM j A'[j] (by simp[h2])).1 h1⟩,hA,λj h1 h2 cD=>(NM j A'[j] (by simp[h2])).2.1 h1 cD,λh2=>(NM i A'[i] (by simp[h2])).2.2 rfl,k2,a2⟩;rw[hA];exact eF dO _ L8 (cZ _ _ _)
def Pa (g0:Heap):Prop:=∀(b:Nat) (cs:Array Value) (t:TypeId) (z:Nat × Nat),g0 b=some (Obj.cells cs t z)->∃(i:Nat) (x:Int),cs[i]? = some (.int .u8 x)
theorem sq.since {g0 h:Heap} {b:Nat} {a:Value} {l:List Int} (hB:Pa g0) (hl:g0.le h) (hz:sq (aW h b) a l):sq (aW (Go.Proofs.since g0 h) b) a l:=by
 obtain⟨B,hz⟩:=hz;rcases hz with ⟨rfl,rfl,rfl⟩|⟨c,r,t,rfl,U,hi,rfl⟩
 ·exact⟨[],.inl ⟨rfl,rfl,rfl⟩⟩
 ·refine⟨[c],.inr ⟨c,r,t,rfl,?_,hi,rfl⟩⟩;have cD:c≠b:=by
   rintro rfl;simp[aW]at U
  have eX:h c=some (.cells ((l++r).map (Value.int .i64)).toArray t (0,0)):=by
   unfold aW at U;rw[if_neg cD]at U;exact U
  have hn:g0 c=none:=by
   cases e:g0 c with
   | none=>rfl
   | some o =>
    have:=hl _ _ e;rw[eX]at this;rw[<-Option.some.inj this]at e;obtain⟨i,x,hx⟩:=hB _ _ _ _ e;simp only[List.getElem?_toArray,List.getElem?_map]at hx;cases hy:(l++r)[i]? with
    | none=>rw[hy]at hx;cases hx
    | some y=>rw[hy]at hx;simp at hx
  unfold aW;rw[if_neg cD,eP hn];exact eX
theorem Le {h:Heap} {v:Value} {cs:List dR} {B:List Nat} (ho:eE ox 2 h v cs B) (ok:cj cs):fo h v cs:=by
 refine ho.row (by have:=ok.2.1;omega) λx a C ha hR=>?_;obtain⟨i,hi,rfl⟩:=List.mem_iff_getElem.1 ha;obtain⟨w,rfl,o⟩:=hR;obtain⟨f1,f2,f3,f4,f5⟩:=ok.2.2 i hi;have h5:=ok.2.1;have hs:cL cs[i].bN:=by
  unfold cL;have:i=0\/i=1\/1 < i:=by omega
  rcases this with e|e|e
  ·have:=f2 e;omega
  ·have:=f3 e;omega
  ·have:=f4 e;omega
 refine⟨w,rfl,hs,cn.BL o (by omega) λt ht=>⟨rfl,?_⟩⟩;have:=f1 t ht;unfold cR at this;unfold cL;omega
structure HZ (h:Heap) (bm:Nat) (n:Nat) (whole:Bool) (rec:List Value) (m:cB):Prop where
 head:eY n m
 hd:whole=false->∃ a,rec=eo m.cls m.eL a m.out m.locals/\m.code=[]/\m.aL=[]/\m.catches=[]
 wh:whole=true->(1<=m.code.length/\m.code.length<=12)/\m.aL.length=m.code.length/\HY m.locals m.aL /\
  ∃ a bc cc bs cs kv,rec=[.int .i64 m.cls,.int .i64 m.eL,a,.int .i64 m.out,.int .i64 m.locals,.slice (some ⟨bc,0,none⟩) m.code.length cc,.slice (some ⟨bs,0,none⟩) m.aL.length cs,kv]/\(bc≠bm/\bs≠bm) /\
   ((kv=.slice none 0 0/\m.catches=[])\/∃ bk,kv=.slice (some ⟨bk,0,none⟩) 1 1/\m.catches.length=1)
theorem FB.mid {h:Heap} {bm n:Nat} {whole:Bool} {rec:List Value} {m m':cB} (k:FB m m') (ha:m'.args=m.args) (hm:HZ h bm n whole rec m):HZ h bm n whole rec m':=by
 refine⟨?_,λhw=>?_,λhw=>?_⟩
 ·have:=hm.head;unfold eY bX at this ⊢;rw[k.cls,k.eL,k.out,k.locals,ha];exact this
 ·obtain⟨a,e,e1,e2,e3⟩:=hm.hd hw;refine⟨a,by rw[k.cls,k.eL,k.out,k.locals];exact e,List.eq_nil_of_length_eq_zero (by rw[k.code,e1];rfl),List.eq_nil_of_length_eq_zero (by rw[k.aL,e2];rfl),List.eq_nil_of_length_eq_zero (by rw[k.catches,e3];rfl)⟩
 ·obtain⟨h1,h2,h3,a,pc,cc,bs,cs,kv,e,h4,h5⟩:=hm.wh hw;refine⟨by rw[k.code];exact h1,by rw[k.code,k.aL];exact h2,by rw[k.locals];exact k.abi _ h3,a,pc,cc,bs,cs,kv,by rw[k.cls,k.eL,k.out,k.locals,k.code,k.aL];exact e,h4,h5.imp (λh=>⟨h.1,List.eq_nil_of_length_eq_zero (by rw[k.catches,h.2];rfl)⟩) λ⟨bk,e1,e2⟩=>⟨bk,e1,by rw[k.catches];exact e2⟩⟩
structure qd (g0 g:Heap) (cp:Option Addr) (cc:Nat) (cs:List dR) (bm cm:Nat) (aP:List (List Value)) (A:List cB) (k:Nat):Prop where
 cls:fo (aW (since g0 g) bm) (.slice cp cs.length cc) cs
 ok:cj cs
 row:za (since g0 g) bm cm aP A
 num:1<=A.length/\A.length<=4
 mid:∀ i (h1:i < aP.length) (h2:i < A.length),HZ (since g0 g) bm cs.length (decide (i < k)) aP[i] A[i]
theorem qd.aG {g0 g g':Heap} {cp:Option Addr} {cc:Nat} {cs:List dR} {bm cm:Nat} {aP:List (List Value)} {A:List cB} {k:Nat} (u:qd g0 g cp cc cs bm cm aP A k) (hl:g.le g'):qd g0 g' cp cc cs bm cm aP A k :=
 ⟨u.cls.le (bT _ (bW g0 hl)) (λ_ _ hx=>hx.le (bT _ (bW g0 hl))),u.ok,u.row.le (bW g0 hl),u.num,λi h1 h2=>⟨(u.mid i h1 h2).head,(u.mid i h1 h2).hd,(u.mid i h1 h2).wh⟩⟩
theorem qd.H6 {g0 g:Heap} {cp:Option Addr} {cc:Nat} {cs:List dR} {bm cm:Nat} {aP:List (List Value)} {A:List cB} {k:Nat} (u:qd g0 g cp cc cs bm cm aP A k):dL (since g0 g) [.slice cp cs.length cc,.slice (some ⟨bm,0,none⟩) A.length cm] ⟨cs,A⟩ :=
 ⟨_,_,rfl,u.cls.le (gF _ _) (λ_ _ hx=>hx.le (gF _ _)),u.row.yP (by have:=u.num;omega)⟩
theorem qd.unV {g0 g:Heap} {cp:Option Addr} {cc:Nat} {cs:List dR} {bm cm:Nat} {aP:List (List Value)} {A:List cB} {k:Nat} (u:qd g0 g cp cc cs bm cm aP A k):HI ⟨cs,A⟩:=by
 refine⟨u.ok,λm hm=>?_⟩;obtain⟨i,hi,rfl⟩:=List.mem_iff_getElem.1 hm;have:=(u.mid i (by rw[u.row.len];exact hi) hi).head;have h2:=this.2.1;exact⟨by show A[i].args.length<=3;omega,this.2.2.2.1,this.2.2.1⟩
theorem qd.fresh {g0 g:Heap} {cp:Option Addr} {cc:Nat} {cs:List dR} {bm cm:Nat} {aP:List (List Value)} {A:List cB} {k:Nat} (u:qd g0 g cp cc cs bm cm aP A k):g0 bm=none/\∃ o,g bm=some o:=by
 obtain⟨o,ho⟩:=u.row.own.in bm (by simp);obtain⟨h1,h2⟩:=dM ho;exact⟨h1,o,h2⟩
theorem qd.put {g0 g:Heap} {cp:Option Addr} {cc:Nat} {cs:List dR} {bm cm:Nat} {aP:List (List Value)} {A:List cB} {k:Nat} (u:qd g0 g cp cc cs bm cm aP A k) (hk:k < A.length) {dO:List Value} {m':cB} (hm:oz (since g0 g) bm dO m') (hM:HZ (since g0 g) bm cs.length true dO m') :
  ∃ hr:k < aP.length,∃ pre post t,g bm=some (.cells (pre++aP[k]++post).toArray t (0,0))/\pre.length=k*8/\dO.length=8/\aP[k].length=8 /\
   ∃ Gz A',qd g0 (g.set bm (.cells (pre++dO++post).toArray t (0,0))) cp cc cs bm cm Gz A' (k+1)/\A'.length=A.length:=by
 obtain⟨hr,_,hf,pre,post,t,U,hp,eF⟩:=u.row.at hk;obtain⟨h0,_⟩:=u.fresh;obtain⟨A',m2,r2,n2,o2,s2,k2,a2⟩:=u.row.put hk hr U eF hm;have bz:g bm=some (.cells (pre++aP[k]++post).toArray t (0,0)):=(dM U).2;have L8:dO.length=8:=by obtain⟨_,_,_,_,_,_,_,_,e,_⟩:=hm.FC;rw[e];rfl
 have Rz:aP[k].length=8:=by obtain⟨_,_,_,_,_,_,_,_,e,_⟩:=hf.FC;rw[e];rfl
 have XQ:since g0 (g.set bm (.cells (pre++dO++post).toArray t (0,0)))=(since g0 g).set bm (.cells (pre++dO++post).toArray t (0,0)):=lN h0;refine⟨hr,pre,post,t,bz,hp,L8,Rz,aP.set k dO,A',⟨?_,u.ok,by rw[XQ];exact r2,by rw[n2];exact u.num,λi h1 h2=>?_⟩,n2⟩
 ·rw[XQ,yO];exact u.cls
 ·have iN:i < A.length:=by rw[<-n2];exact h2
  have ED:i < aP.length:=by simpa using h1
  by_cases e:i=k
  ·subst e;rw[s2 h2];have:=k2.mid a2 hM;have hd:decide (i < i+1)=true:=by simp
   rw[hd];simp only[List.getElem_set_self];exact⟨this.head,this.hd,this.wh⟩
  ·obtain⟨kk,aa⟩:=o2 i iN h2 e;have:=kk.mid aa (u.mid i ED iN);have hd:decide (i < k+1)=decide (i < k):=by
    by_cases e1:i < k
    ·simp[e1];omega
    ·simp[e1];omega
   rw[hd,List.getElem_set_ne (λe'=>e e'.symm)];exact⟨this.head,this.hd,this.wh⟩
theorem BO {pre x y post:List Value} {n:Nat} (hn:n=pre.length) (hl:y.length=x.length):ep (pre++x++post) n y=pre++y++post:=by
 subst hn;rw[List.append_assoc,gT y pre (x++post) (by simp;omega),hl,List.drop_left]
theorem Lf {Gb G:Heap} {u:aU} {m m':cB} {a:Value} {rec:List Value} {bm n:Nat} (made:Gw Gb G u m a rec m') (az:sq (aW G bm) a m.args) (an:m.args.length<=100) (iq:∃ o,Gb bm=some o) (hH:eY n m):oz G bm rec m'/\HZ G bm n true rec m':=by
 obtain⟨pc,kc,bs,ks,kv,e,zA,oP⟩:=made.form.form;have cD:bs≠bm:=by
  rintro rfl;obtain⟨o,ho⟩:=iq;rw[zA.2]at ho;cases ho
 have Sq:pc≠bm:=by
  rintro rfl;obtain⟨o,ho⟩:=iq;rw[zA.1]at ho;cases ho
 obtain⟨a0,c0,s0,k0,e0,i1,i2,i3,i4,w1,w2,w3,w4⟩:=made.read;have e0':=e0;rw[e]at e0';simp only[List.cons.injEq,and_true,true_and]at e0';obtain⟨rfl,rfl,rfl,rfl⟩:=e0';have Yi:=made.same;have zB:0<=m'.locals:=by have:=(made.same.O9 hH).2.2.2.2.2;omega
 refine⟨⟨a,_,_,_,e0,i1,i2,i3,i4,⟨by rw[Yi.2.2.1];exact az,by rw[Yi.2.2.1];exact an⟩,w2,w3,w4,λp n cc h=>.inr ?_⟩,⟨made.same.O9 hH,(λh=>nomatch h),λ_=>⟨made.ms.mi.len,made.ms.num,made.ms.val.abh zB,a,pc,kc,bs,ks,kv,e,⟨Sq,cD⟩,oP⟩⟩⟩;simp only[Value.slice.injEq]at h;exact⟨bs,0,h.1.symm,cD⟩
theorem Lg {g0 g:Heap} {b:Nat} {x y:dX} {t:TypeId} (U:g0 b=none) (e:g b=some (.cells (dx x++dx y).toArray t (0,0))) (h1:cL x.kind/\cL x.a/\cL x.b) (h2:cL y.kind/\cL y.a/\cL y.b):Row 3 CH (since g0 g) (.slice (some ⟨b,0,none⟩) 2 2) [x,y]:=by
 have ho:cn 3 (since g0 g) (.slice (some ⟨b,0,none⟩) 2 2) ([x,y].map dx) [b]:=⟨λz hz=>by obtain⟨w,_,rfl⟩:=List.mem_map.1 hz;rfl,.inr ⟨b,2,[],t,rfl,by simp,by rw[eP U];simpa using e,by simp[dx],rfl⟩⟩
 refine ho.BL (by simp) λz hz=>⟨rfl,?_⟩
 simp only[List.mem_cons,List.not_mem_nil,or_false]at hz;rcases hz with rfl|rfl
 ·exact h1
 ·exact h2
theorem qd.st {gB g0 g:Heap} {cp:Option Addr} {cc:Nat} {cs:List dR} {bm cm:Nat} {aP:List (List Value)} {A:List cB} {k off bb:Nat} {vb:Value} {p q:Int} {K:Heap->Prop} {dO:List Value} {m':cB} (u:qd g0 g cp cc cs bm cm aP A k) (hk:k < A.length) (hF:oz (since g0 g) bm dO m'/\HZ (since g0 g) bm cs.length true dO m')
  (r:bD g bb vb q) (r0:bD gB bb vb p) (hq:p<=q) (XT:gB bm=none) (lg:gB.le g) (ho:off=0+k*8)
  (hK:∀ g' Gz A',gB.le g'->bD g' bb vb q->qd g0 g' cp cc cs bm cm Gz A' (k+1)->A'.length=A.length->K (cN g' bb vb q)):St (cN g bb vb q) bm off dO K:=by
 obtain⟨hr,pre,post,tt,rG,hpp,l8,l8',Gz,A',u6,n6⟩:=u.put hk hF.1 hF.2;have NN:bb≠bm:=λe=>by have:=r.free;rw[e,rG]at this;cases this
 have GA:=Heap.aM (o:=Obj.cells (pre++dO++post).toArray tt (0,0)) lg XT;exact mQ r.free rG (by simp only[List.length_append];omega) (BO (by omega) (by rw[l8,l8'])) (hK _ _ _ GA (r0.to GA (by simp[Heap.set,NN,r.free]) hq) u6 n6)
theorem At {g0 g:Heap} {bb:Nat} {vb:Value} {p:Int} (r:bD g bb vb p) (hp:p<=30000000) (h0:g0.le g) (hB:Pa g0) :
  Dr prog 71 [.pointer (some ⟨bb,0,none⟩)] g bb vb p 9000 λg' v=>∃ cp cc cs bm cm aP A,v=.agg #[.slice cp cs.length cc,.slice (some ⟨bm,0,none⟩) A.length cm]/\qd g0 g' cp cc cs bm cm aP A A.length/\g bm=none:=by
 refine bS au func71 G71 W8 rfl ?_;conv=>whnf
 refine iC r (uQ r (by omega)) (λv g1 q1 l1 r1 YT YU hA=>?_);obtain⟨cs,B,oc,O6,vX,ok⟩:=hA;have f:=oc.form;obtain⟨cp,cc,rfl,L9⟩:=f;conv=>whnf
 refine iC r1 (Fv cp cs.length cc r1 (by omega) ⟨ok.1,ok.2.1⟩) (λv g2 q2 l2 r2 q20 q21 hA=>?_);obtain⟨bm,cm,ms,rfl,qb,D2,Yx,Lh⟩:=hA;have L7:=ww h0 l1;have h02:=ww L7 l2;have hfm:g0 bm=none:=bp L7 qb.fr;have hrw:=qb.row;obtain⟨aP,XU,XV,RA⟩:=hrw;have u2:qd g0 g2 cp cc cs bm cm aP ms 0:=by
  refine⟨Le (oc.aG sC λb U o ho=>?_) ok,ok,⟨XU.aG (jZ λb U=>by rw[List.mem_singleton.1 U];exact hfm),XV,λi h1 h2=>?_⟩,⟨D2,Yx⟩,λi h1 h2=>?_⟩
  ·have cD:b≠bm:=by
    rintro rfl;rw[qb.fr]at ho;cases ho
   unfold aW;rw[if_neg cD,eP (bp h0 (vX b U))];exact l2 _ _ ho
  ·obtain⟨a,e,z,e1,e2,e3⟩:=RA i h1 h2;have hd:=Lh ms[i] (w_ h2);obtain⟨i1,i2,i3,i4⟩:=y8 hd ok.2.1;exact⟨a,_,_,_,e,i1,i2,i3,i4,⟨z.since hB h02,by have:=hd.2.1;omega⟩,by rw[e1];exact iW _,by rw[e2];exact iW _,by rw[e3];exact iW _,λp n cc h=>.inl (by simp only[Value.slice.injEq]at h;exact h.2.1.symm)⟩
  ·obtain⟨a,e,z,e1,e2,e3⟩:=RA i h1 h2;exact⟨Lh ms[i] (w_ h2),λ_=>⟨a,e,e1,e2,e3⟩,λh=>by simp at h⟩
 have XT:g bm=none:=bp l1 qb.fr;have Gl:=ww l1 l2;clear qb XU XV RA Lh oc O6 vX L9;conv=>whnf
 refine fm [0,2,3,4] [2,3] (λy:Nat × (Heap × Int) × List (List Value) × List cB=>y.1<=ms.length/\y.2.2.2.length=ms.length/\g.le y.2.1.1/\bD y.2.1.1 bb vb y.2.1.2/\p<=y.2.1.2/\y.2.1.2<=p+300+2110*(y.1:Int)/\qd g0 y.2.1.1 cp cc cs bm cm y.2.2.1 y.2.2.2 y.1) (λy=>ms.length-y.1)
  (λy=>([.v (.pointer (some ⟨bb,0,none⟩)),.l 2 0,.l 3 0,.v (.int .i64 y.1)],[some [.slice none 0 0,.slice none 0 0],some [.slice cp cs.length cc,.slice (some ⟨bm,0,none⟩) ms.length cm]],cN y.2.1.1 bb vb y.2.1.2))
  (0,(g2,q2),aP,ms) ⟨Nat.zero_le _,rfl,Gl,r2,by simp only;omega,by simp only;omega,u2⟩ rfl ?_
 clear u2 r2 Gl;rintro⟨i,⟨g3,q3⟩,aP,A⟩ ⟨hi,hA,l3,r3,p7,rV,u3⟩;simp only at hi hA l3 r3 p7 rV u3 ⊢;conv=>whnf
 apply ax<;>intro gi;all_goals conv=>whnf
 ·have YV:i < A.length:=by omega
  have f:=u3.row.at YV;obtain⟨vC,e3,hf3,_⟩:=f;have RZ:=u3.mid i vC YV;have ng:decide (i < i)=false:=by simp
  rw[ng]at RZ;have hh:=RZ.hd rfl;obtain⟨a,ea,ec1,YW,Pb⟩:=hh;have hd:=RZ.head;rw[ea]at e3;clear RZ;generalize A[i]=mi at hf3 ea ec1 YW Pb hd e3;have hex:=hf3.ex;obtain⟨a',_,_,_,YX,i1,i2,i3,i4,⟨az,an⟩,_⟩:=hex;have haa:a'=a:=by
   rw[ea]at YX;unfold eo at YX;simp only[List.cons.injEq]at YX;exact YX.2.2.1.symm
  subst haa;have f:=az.form;obtain⟨ap,ac,rfl⟩:=f;have h03:g0.le g3:=ww h0 l3;have Ce:eG (cN g3 bb vb q3) bm (0+i*8) 8=some (eo mi.cls mi.eL (.slice ap mi.args.length ac) mi.out mi.locals):=bK (bh r3.free) (bK (aJ _ _) e3);unfold eo at Ce;have N4:cT (since g0 g3) (.slice ap mi.args.length ac) mi.args:=(az.ints (by omega)).le (gF _ _);rw[<-hA];refine aq ?_;conv=>whnf
  refine ptr ?_;conv=>whnf
  refine dK Ce ?_;conv=>whnf
  refine iC r3 (HW _ ⟨cs,A⟩ mi (.slice ap mi.args.length ac) r3 (by omega) h03 u3.H6 N4 u3.unV (by have:=u3.num;show A.length<=100;omega) hd ec1 YW Pb) (λv g4 q4 l4 r4 XI XJ hM=>?_);obtain⟨rec,m',rfl,made⟩:=hM;have u4:=u3.aG l4;have hpn:=u3.num;have lg4:=ww l3 l4;have XW:=ww h0 lg4;have abj:∃ o,since g0 g3 bm=some o:=u3.row.own.in bm (by simp);have az4:=az.le (bT bm (bW g0 l4));have G7:=made.form.form;obtain⟨pc,kc,bs,ks,kv,rfl,zA,oP⟩:=G7;have XX:∃ p n c,kv=Value.slice p n c:=by
   rcases oP with ⟨rfl,_⟩|⟨bk,rfl,_⟩
   ·exact⟨_,_,_,rfl⟩
   ·exact⟨_,_,_,rfl⟩
  obtain⟨pk,nk,ck,rfl⟩:=XX;conv=>whnf
  refine ND r4 XW (DB _ _ ⟨cs,A⟩ m' (since g0 g4) u4.H6 made.read u4.unV made.ms) (λv g5 l5 r5 hr=>?_);obtain⟨sl,rfl,_⟩:=hr;have u5:=u4.aG l5;have lg5:=ww lg4 l5;have h05:=ww h0 lg5;conv=>whnf
  cases ez:(j8 ⟨cs,A⟩ m').2
  ·have abk:eG (cN g5 bb vb q4) bm (0+i*8) 8=some [.int .i64 mi.cls,.int .i64 mi.eL,.slice ap mi.args.length ac,.int .i64 mi.out,.int .i64 mi.locals,.slice none 0 0,.slice none 0 0,.slice none 0 0]:=bK (bh r5.free) (bK (ww l4 l5) (bK (aJ _ _) e3));have XY:cT (since g0 g5) (.slice ap mi.args.length ac) mi.args:=N4.le (bW g0 (ww l4 l5));conv=>whnf
   refine aq ?_;conv=>whnf
   refine ptr ?_;conv=>whnf
   refine dK abk ?_;conv=>whnf
   refine iC r5 (yX _ mi r5 (by omega) (Aq hd ok.2.1 (XY.le (aJ _ _)) ec1 YW Pb)) (λv g6 q6 l6 r6 XZ X0 hE=>?_);refine hE.elim λb6 hE=>hE.elim λx hE=>hE.elim λy hE=>?_;have hv:=hE.1;subst hv;have Ah:=hE.2.1;have e6:=hE.2.2.1;have Jb:=hE.2.2.2;have lg6:=ww lg5 l6;have h06:=ww h0 lg6;have u6:=u5.aG l6;have Mb:eH ⟨cs,A⟩ {mi with code:=[x,y]} x/\eH ⟨cs,A⟩ {mi with code:=[x,y]} y:=by
    have h2:=ok.1;rcases Jb with ⟨rfl,rfl⟩|⟨rfl,rfl|⟨w,rfl,w0,w1⟩⟩
    ·exact⟨(aI (p:=5) (q:=0) rfl).2 ⟨by unfold bA;simp;omega,rfl⟩,(aI (p:=0) (q:=0) rfl).2 ⟨rfl,rfl⟩⟩
    ·exact⟨(aI (p:=0) (q:=0) rfl).2 ⟨rfl,rfl⟩,(aI (p:=0) (q:=0) rfl).2 ⟨rfl,rfl⟩⟩
    ·exact⟨(aI (p:=1) (q:=0) rfl).2 ⟨by unfold bA;simp[eT];omega,rfl⟩,(aI (p:=0) (q:=0) rfl).2 ⟨rfl,rfl⟩⟩
   have sG:=hd.2.2.2.2.1;have bx:=uV Mb.1 ok (by show A.length<=100;omega) (by show mi.locals<=1000;omega) (by simp);have by_:=uV Mb.2 ok (by show A.length<=100;omega) (by show mi.locals<=1000;omega) (by simp);have mw:=Lg (bp h05 Ah) e6 (by unfold cL;omega) (by unfold cL;omega);have X1:=XY.le (bW g0 l6);have Ry:ee (since g0 g6) [.int .i64 mi.cls,.int .i64 mi.eL,.slice ap mi.args.length ac,.int .i64 mi.out,.int .i64 mi.locals,.slice (some ⟨b6,0,none⟩) 2 2,.slice none 0 0,.slice none 0 0] {mi with code:=[x,y]} :=
    ⟨_,_,_,_,rfl,i1,i2,i3,i4,X1,mw,by rw[show({mi with code:=[x,y]}:cB).aL=[]from YW];exact iW _,by rw[show({mi with code:=[x,y]}:cB).catches=[]from Pb];exact iW _⟩
   have OK:Q9 ⟨cs,A⟩ {mi with code:=[x,y]}:=⟨hd,by simp,λz hz=>by
    simp only[List.mem_cons,List.not_mem_nil,or_false]at hz;rcases hz with rfl|rfl
    ·exact Mb.1
    ·exact Mb.2,by
    refine⟨by rw[show({mi with code:=[x,y]}:cB).catches=[]from Pb];simp,λz hz=>?_⟩;rw[show({mi with code:=[x,y]}:cB).catches=[]from Pb]at hz;cases hz⟩
   conv=>whnf
   refine ND r6 h06 (qQ _ ⟨cs,A⟩ {mi with code:=[x,y]} (since g0 g6) ap (some ⟨b6,0,none⟩) none none mi.args.length 2 0 0 ac 2 0 0 u6.H6 Ry u6.unV OK) (λv g7 l7 r7 hr=>?_);refine hr.elim λb7 hr=>hr.elim λc7 hr=>hr.elim λA7 hr=>?_;have hv:=hr.1;subst hv;have aA:=hr.2.1;have nA:=hr.2.2.1;have vA:=hr.2.2.2;have lg7:=ww lg6 l7;have ls:=bW g0 l7;have u7:=u6.aG l7;have hnA:A7.length=2:=by rw[nA];rfl
   have abl:since g0 g5 b6=none:=pM Ah;have X2:Gw (since g0 g5) (since g0 g7) ⟨cs,A⟩ mi (.slice ap mi.args.length ac) [.int .i64 mi.cls,.int .i64 mi.eL,.slice ap mi.args.length ac,.int .i64 mi.out,.int .i64 mi.locals,.slice (some ⟨b6,0,none⟩) 2 2,.slice (some ⟨b7,0,none⟩) A7.length c7,.slice none 0 0] {mi with code:=[x,y],aL:=A7} :=
    ⟨⟨rfl,rfl,rfl,rfl,rfl⟩,⟨_,_,_,_,rfl,i1,i2,i3,i4,X1.le ls,mw.le ls (λ_ _ hx=>hx),aA.yP (by omega),by rw[show({mi with code:=[x,y],aL:=A7}:cB).catches=[]from Pb];exact iW _⟩,⟨⟨OK.head,OK.len,OK.code,OK.cat⟩,nA,vA⟩,⟨_,_,_,_,_,rfl,⟨abl,bp (bW g0 l6) aA.fr⟩,.inl ⟨rfl,Pb⟩⟩⟩
   have Li:∃ o,since g0 g5 bm=some o:=u5.row.own.in bm (by simp);have hF:=Lf (n:=cs.length) X2 (((az4.le (bT bm (bW g0 l5))).le (bT bm (bW g0 l6))).le (bT bm ls)) (by have:=hd.2.1;omega) Li hd;conv=>whnf
   refine aq ?_;conv=>whnf
   refine ptr ?_;conv=>whnf
   refine u7.st YV hF r7 r (by omega) XT lg7 rfl (λg9 Lj A9 vY r9 u9 n9=>?_);conv=>whnf
   refine aj ?_;conv=>whnf
   exact dm (i+1,(g9,_),Lj,A9) ⟨by simp only;omega,by simp only;omega,vY,r9,by simp only;omega,by simp only;omega,u9⟩ (by simp only;omega) rfl
  ·have X3:Gw (since g0 g3) (since g0 g5) ⟨cs,A⟩ mi (.slice ap mi.args.length ac) _ m':=⟨made.same,made.read.le (bW g0 l5),made.ms,made.form⟩
   have hF:=Lf (n:=cs.length) X3 (az4.le (bT bm (bW g0 l5))) (by have:=hd.2.1;omega) abj hd;conv=>whnf
   refine aq ?_;conv=>whnf
   refine ptr ?_;conv=>whnf
   refine u5.st YV hF r5 r (by omega) XT lg5 rfl (λg9 Lj A9 vY r9 u9 n9=>?_);conv=>whnf
   refine aj ?_;conv=>whnf
   exact dm (i+1,(g9,_),Lj,A9) ⟨by simp only;omega,by simp only;omega,vY,r9,by simp only;omega,by simp only;omega,u9⟩ (by simp only;omega) rfl
 ·have hik:i=A.length:=by omega
  have hpn:=u3.num;rw[<-hA];exact⟨_,_,rfl,l3,r3.free,by omega,by omega,cp,cc,cs,bm,cm,aP,A,rfl,by rw[<-hik];exact u3,XT⟩
def DrW (P:Program) (f:FuncId) (args:List Value) (g0 g:Heap) (bb:Nat) (vb:Value) (p k:Int) (A:Heap->Value->Prop):Prop :=
 bI P f args (cN g bb vb p) λv h'=>∃ g' q,h'=cN g' bb vb q/\g0.le g'/\g' bb=none/\p<=q/\q<=p+k/\A g' v
theorem Pc {P:Program} {f:FuncId} {args:List Value} {g0 g:Heap} {bb:Nat} {vb:Value} {q0 p k:Int} {A:Heap->Value->Prop} {K:Value->Heap->Prop} {E:List PanicEntry->Heap->Prop} (r0:bD g0 bb vb q0) (hq:q0<=p) (hc:DrW P f args g0 g bb vb p k A)
  (hk:∀ v g' q,g0.le g'->bD g' bb vb q->p<=q->q<=p+k->A g' v->K v (cN g' bb vb q)):Go.Vc.Call P f args (cN g bb vb p) K E :=
 aD hc λv h' hh=>by
  obtain⟨g',q,rfl,hl,U,h1,h2,hA⟩:=hh;exact hk v g' q hl (r0.to hl U (by omega)) h1 h2 hA
theorem nI {g:Heap} {b:Nat} {cs:Array Value} {t:TypeId} {z:Nat × Nat} (U:g b=some (.cells cs t z)):∀ {n off:Nat} {vs:List Value},0 < n->eG g b off n=some vs->∃ pre post,cs.toList=pre++vs++post/\pre.length=off:=by
 intro n off vs hn hr;have hl:=AP hr;have hle:off+n<=cs.toList.length:=by
  have h1:∃ v,vs[n-1]? = some v:=⟨vs[n-1]'(by omega),v_ (by omega)⟩
  obtain⟨v,hv⟩:=h1;have h2:=aK hr hv;simp only[rd,U]at h2;have:=(Array.getElem?_eq_some_iff.1 h2).1;simp;omega
 have bz:g b=some (.cells cs.toList.toArray t z):=by simpa using U
 have h3:=bP bz n off hle;rw[hr]at h3;refine⟨cs.toList.take off,cs.toList.drop (off+n),?_,by rw[List.length_take];omega⟩;rw[Option.some.inj h3,List.append_assoc];have:(cs.toList.drop off).take n++cs.toList.drop (off+n)=cs.toList.drop off:=by
  rw[<-List.drop_drop,List.take_append_drop]
 rw[this,List.take_append_drop]
theorem oA {α:Type} {sz:Nat} {R:Heap->List Value->α->Prop} {g0 g:Heap} {p:Option Addr} {n c:Nat} {l:List α} (hr:Row sz R (since g0 g) (.slice p n c) l) (nz:NF (since g0 g)) (hs:0 < sz) {i:Nat} (hi:i < l.length) :
  ∃ b off vs pre post t,p=some ⟨b,off,none⟩/\g0 b=none/\g b=some (.cells (pre++vs++post).toArray t (0,0))/\(since g0 g) b=some (.cells (pre++vs++post).toArray t (0,0))/\pre.length=off+i*sz/\eG (since g0 g) b (off+i*sz) sz=some vs/\R (since g0 g) vs l[i]:=by
 obtain⟨b,off,vs,hp,h1,h2⟩:=hr.get hi;have zA:∃ cs t z,since g0 g b=some (.cells cs t z):=by
  obtain⟨v,hv⟩:∃ v,vs[0]? = some v:=⟨vs[0]'(by rw[AP h1];exact hs),v_ _⟩
  have h3:=aK h1 hv;unfold rd at h3;split at h3
  ·rename_i cs t z hx;exact⟨cs,t,z,hx⟩
  ·cases h3
 obtain⟨cs,t,z,U⟩:=zA;have hz:=nz _ _ _ _ U;subst hz;obtain⟨pre,post,e,hl⟩:=nI U hs h1;have e':cs=(pre++vs++post).toArray:=by rw[<-e]
 rw[e']at U;exact⟨b,off,vs,pre,post,t,hp,(dM U).1,(dM U).2,U,hl,h1,h2⟩
structure wZ (g g':Heap) (bm:Nat):Prop where
 int:wX g g'
 bool:∀ b off x,b≠bm->rd g b off=some (.bool x)->∃ x',rd g' b off=some (.bool x')
 row:∀ b off v l,b≠bm->rd g b off=some v->cT g v l->∃ v' l',rd g' b off=some v'/\cT g' v' l'
theorem wL.Cf {g g':Heap} (a:wL g g') (bm:Nat):wZ g g' bm:=⟨a.int,λb off x _ h=>a.bool b off x h,λb off v l _ h i=>a.row b off v l h i⟩
theorem wZ.trans {g g1 g2:Heap} {bm:Nat} (a:wZ g g1 bm) (c:wZ g1 g2 bm):wZ g g2 bm where
 int:=λb off x h i=>by
  obtain⟨y,h1,i1⟩:=a.int b off x h i;exact c.int b off y h1 i1
 bool:=λb off x U h=>by
  obtain⟨y,h1⟩:=a.bool b off x U h;exact c.bool b off y U h1
 row:=λb off v l U h i=>by
  obtain⟨v1,l1,h1,i1⟩:=a.row b off v l U h i;exact c.row b off v1 l1 U h1 i1
theorem BP {g:Heap} {b:Nat} {pre post rec dO:List Value} {t:TypeId} (U:g b=some (.cells (pre++rec++post).toArray t (0,0))) (h1:DP rec) (h2:DP dO):wZ g (g.set b (.cells (pre++dO++post).toArray t (0,0))) b:=by
 have ai:=uW U h1 h2;refine⟨ai,λc off x hc h=>⟨x,by rw[mX hc];exact h⟩,λc off v l hc h i=>?_⟩;obtain⟨l',i',_⟩:=fL ai i;exact⟨v,l',by rw[mX hc];exact h,i'⟩
structure oB (h:Heap) (bm:Nat) (rec:List Value) (m:cB):Prop where
 read:ee h rec m
 at_:∀ x1 x2 a x3 x4 c p n cc k,rec=[.int .i64 x1,.int .i64 x2,a,.int .i64 x3,.int .i64 x4,c,.slice p n cc,k]->n=0\/∃ bs off,p=some ⟨bs,off,none⟩/\bs≠bm
theorem Lk {g g':Heap} {bm:Nat} (a:wZ g g' bm) {p:Option Addr} {n c:Nat} {l:List dH} (hr:Row 3 lV g (.slice p n c) l) (U:n=0\/∃ bs off,p=some ⟨bs,off,none⟩/\bs≠bm):∃ l',Row 3 lV g' (.slice p n c) l':=by
 obtain⟨h1,p',c',e,h2,h3⟩:=hr;simp only[Value.slice.injEq]at e;obtain⟨rfl,rfl,rfl⟩:=e;rcases h3 with rfl|⟨b,off,rfl,hx⟩
 ·exact⟨[],by simp,p,c,rfl,by simp,.inl rfl⟩
 ·rcases U with U|⟨bs,dU,e,zA⟩
  ·have:l=[]:=List.eq_nil_of_length_eq_zero U;subst this;exact⟨[],by simp,_,c,rfl,by simp,.inl rfl⟩
  ·simp only[Option.some.injEq,Addr.mk.injEq,and_true]at e;obtain⟨rfl,rfl⟩:=e;obtain⟨l',hl,rM⟩:=js (Q:=λi (x:dH)=>∃ vs,eG g' b (off+i*3) 3=some vs/\lV g' vs x) l.length (λi hi=>by
    obtain⟨vs,e1,l1,l2,rfl,i1,i2⟩:=hx i l[i] (by simp[hi]);obtain⟨h1,hv⟩:=cV e1;obtain⟨h2,hv⟩:=cV hv;obtain⟨h3,_⟩:=cV hv;obtain⟨x1,e1⟩:=a.bool _ _ _ zA h1;obtain⟨v1,m1,e2,j1⟩:=a.row _ _ _ _ zA h2 i1;obtain⟨v2,m2,e3,j2⟩:=a.row _ _ _ _ zA h3 i2;exact⟨⟨x1,m1,m2⟩,_,dF e1 (dF e2 (lD e3)),_,_,rfl,j1,j2⟩)
   exact⟨l',by omega,_,c,by rw[hl],by omega,.inr ⟨b,off,rfl,rM⟩⟩
theorem oB.Sa {g g':Heap} {bm:Nat} {rec:List Value} {m:cB} (hm:oB g bm rec m) (a:wZ g g' bm):∃ m',ee g' rec m':=by
 obtain⟨a1,c,s,k,e,i1,i2,i3,i4,h1,h2,h3,h4⟩:=hm.read;obtain⟨l1,r1,_⟩:=fL a.int h1;obtain⟨l2,r2,n2⟩:=iD (xu a.int) h2;obtain⟨l4,r4,n4⟩:=iD (xw a.int) h4;obtain⟨p,cc,rfl,_,_⟩:=h3.len;obtain⟨l3,r3⟩:=Lk a h3 (hm.at_ _ _ _ _ _ _ _ _ _ _ e);exact⟨⟨m.cls,m.eL,l1,m.out,m.locals,l2,l3,l4⟩,⟨a1,c,_,k,e,i1,i2,i3,i4,r1,r2,r3,r4⟩⟩
theorem oz.Cf {h:Heap} {b:Nat} {rec:List Value} {m:cB} (hm:oz h b rec m):oB h b rec m:=by
 refine⟨hm.toR,λx1 x2 a x3 x4 c p n cc k e=>?_⟩;obtain⟨a',c',s',k',e',_,_,_,_,_,_,_,_,h5⟩:=hm.ex;rw[e]at e';simp only[List.cons.injEq,and_true]at e';exact h5 p n cc e'.2.2.2.2.2.2.1.symm
theorem DQ {g g':Heap} {bm:Nat} (a:wZ g g' bm) {v:Value} {l:List dR} (hr:fo (aW g bm) v l):∃ l',fo g' v l':=by
 obtain⟨h1,p,c,rfl,h2,h3⟩:=hr;rcases h3 with rfl|⟨b,off,rfl,hx⟩
 ·exact⟨[],by simp,p,c,rfl,by simp,.inl rfl⟩
 ·obtain⟨l',hl,rM⟩:=js (Q:=λi (x:dR)=>∃ vs,eG g' b (off+i*2) 2=some vs/\CG g' vs x) l.length (λi hi=>by
   obtain⟨vs,e1,f,rfl,i1,i2⟩:=hx i l[i] (by simp[hi]);obtain⟨h1,hv⟩:=cV e1;obtain⟨h2,_⟩:=cV hv;have cD:b≠bm:=by
    rintro rfl;simp[rd,aW]at h1
   have un:∀ o,rd (aW g bm) b o=rd g b o:=λo=>by unfold rd aW;rw[if_neg cD]
   rw[un]at h1 h2;obtain⟨x1,e1,j1⟩:=a.int _ _ _ h1 i1;obtain⟨v',l',e2,j2⟩:=a.row _ _ _ _ cD h2 (i2.le (gF _ _));exact⟨⟨x1,l'⟩,_,dF e1 (lD e2),_,rfl,j1,j2⟩)
  exact⟨l',by omega,_,c,by rw[hl],by omega,.inr ⟨b,off,rfl,rM⟩⟩
theorem qd.end {g0 g g1:Heap} {cp:Option Addr} {cc:Nat} {cs:List dR} {bm cm:Nat} {aP:List (List Value)} {A:List cB} {k:Nat} (u:qd g0 g cp cc cs bm cm aP A k) (a:wZ (since g0 g) (since g0 g1) bm) (gI:g1 bm=g bm) {i:Nat} (hi:i < A.length) {dO:List Value} {m':cB} (hm:oB (since g0 g1) bm dO m') (hL:DP dO) :
  ∃ hr:i < aP.length,∃ pre post t,g1 bm=some (.cells (pre++aP[i]++post).toArray t (0,0))/\pre.length=i*8/\dO.length=8/\aP[i].length=8 /\
   (∀ g2,g2=g1.set bm (.cells (pre++dO++post).toArray t (0,0))->(∃ A',Row 8 ee (since g0 g2) (.slice (some ⟨bm,0,none⟩) A.length cm) A')/\(∃ l',fo (since g0 g2) (.slice cp cs.length cc) l')):=by
 obtain⟨hr,_,hf,pre,post,t,U,hp,eF⟩:=u.row.at hi;obtain⟨h0,_⟩:=u.fresh;have hbg:g bm=some (.cells (pre++aP[i]++post).toArray t (0,0)):=(dM U).2;have X4:g1 bm=some (.cells (pre++aP[i]++post).toArray t (0,0)):=by rw[gI];exact hbg
 have FD:since g0 g1 bm=some (.cells (pre++aP[i]++post).toArray t (0,0)):=by rw[eP h0];exact X4
 have L8:dO.length=8:=by obtain⟨_,_,_,_,_,_,_,_,e,_⟩:=hL;rw[e];rfl
 have Rz:aP[i].length=8:=by obtain⟨_,_,_,_,_,_,_,_,e,_⟩:=hf.FC;rw[e];rfl
 refine⟨hr,pre,post,t,X4,hp,L8,Rz,λg2 e2=>?_⟩;have XQ:since g0 g2=(since g0 g1).set bm (.cells (pre++dO++post).toArray t (0,0)):=by rw[e2];exact lN h0
 have ab:=BP FD hf.FC hL;rw[<-XQ]at ab;have own:=eF dO (since g0 g2) L8 (by rw[XQ];exact cZ _ _ _);obtain⟨A',hA,NM⟩:=js (Q:=λj (m:cB)=>∀ h1:j < (aP.set i dO).length,ee (since g0 g2) (aP.set i dO)[j] m) A.length (λj hj=>by
  by_cases e:j=i
  ·subst e;obtain⟨m2,r2⟩:=hm.Sa ab;exact⟨m2,λ_=>by simpa using r2⟩
  ·obtain⟨m2,r2⟩:=(u.row.each j (by rw[u.row.len];exact hj) hj).Cf.Sa (a.trans ab);exact⟨m2,λ_=>by rw[List.getElem_set_ne (λe'=>e e'.symm)];exact r2⟩)
 exact⟨⟨A',own.Rw (by rw[List.length_set,u.row.len,hA]) (by have:=u.num;omega) λj h1 h2=>NM j A'[j] (by simp[h2]) h1⟩,DQ (a.trans ab) u.cls⟩
theorem Ll (x:Int):cL (IntKind.i64.wrap x):=by
 unfold cL;simp[IntKind.wrap,IntKind.bits,IntKind.signed];omega
theorem NO {G:Heap} {b:Nat} {pre x post:List Value} {t:TypeId} {i:Nat} {z y:Int} (U:G b=some (.cells (pre++x++post).toArray t (0,0))) (hx:x[i]? = some (.int .i64 z)) (hy:cL y):wL G (G.set b (.cells (pre++x.set i (.int .i64 y)++post).toArray t (0,0))):=by
 have h1:=wM (cs:=pre++x++post) (off:=pre.length+i) U (F1 hx) hy;have e:(pre++x++post).set (pre.length+i) (.int .i64 y)=pre++x.set i (.int .i64 y)++post:=by
  rw[List.append_assoc,List.set_append,if_neg (by omega),Nat.add_sub_cancel_left,List.set_append,if_pos (List.getElem?_eq_some_iff.1 hx).1,List.append_assoc]
 rw[e]at h1;exact h1
theorem oB.Lm {g g':Heap} {bm:Nat} {rec:List Value} {m:cB} (hm:oB g bm rec m) (a:wL g g'):∃ m',oB g' bm rec m':=by
 obtain⟨m',h,_⟩:=NC a hm.read;exact⟨m',h,hm.at_⟩
theorem H7 {G:Heap} {bm bs off n cc:Nat} {x1 x2 x3 x4:Int} {a c k:Value} {m:cB} (hr:ee G [.int .i64 x1,.int .i64 x2,a,.int .i64 x3,.int .i64 x4,c,.slice (some ⟨bs,off,none⟩) n cc,k] m) (U:bs≠bm):oB G bm [.int .i64 x1,.int .i64 x2,a,.int .i64 x3,.int .i64 x4,c,.slice (some ⟨bs,off,none⟩) n cc,k] m:=by
 refine⟨hr,λy1 y2 a' y3 y4 c' p n' cc' k' e=>.inr ?_⟩;simp only[List.cons.injEq,Value.slice.injEq,and_true]at e;exact⟨bs,off,e.2.2.2.2.2.2.1.1.symm,U⟩
theorem iX {x1 x2 x3 x4:Int} {p1 p2 p3 p4:Option Addr} {n1 n2 n3 n4 c1 c2 c3 c4:Nat} (i1:cL x1) (i2:cL x2) (i3:cL x3) (i4:cL x4):DP [.int .i64 x1,.int .i64 x2,.slice p1 n1 c1,.int .i64 x3,.int .i64 x4,.slice p2 n2 c2,.slice p3 n3 c3,.slice p4 n4 c4] :=
 ⟨_,_,_,_,_,_,_,_,rfl,i1,i2,i3,i4,(λx h=>nomatch h),(λx h=>nomatch h),(λx h=>nomatch h),(λx h=>nomatch h)⟩
section
variable {g0 g g1:Heap} {cp:Option Addr} {cc:Nat} {cs:List dR} {bm cm:Nat} {aP:List (List Value)} {A:List cB} {k bb:Nat} {vb:Value} {q0 q:Int} {K:Heap->Prop}
theorem qd.pW {i off:Nat} {dO:List Value} {m':cB} (u:qd g0 g cp cc cs bm cm aP A k) (a:wZ (since g0 g) (since g0 g1) bm) (gI:g1 bm=g bm) (hi:i < A.length) (hm:oB (since g0 g1) bm dO m') (hL:DP dO) (r:bD g1 bb vb q) (r0:bD g0 bb vb q0) (hq:q0<=q) (L7:g0.le g1) (ho:off=0+i*8)
  (hK:∀ g2 A' l',g0.le g2->bD g2 bb vb q->Row 8 ee (since g0 g2) (.slice (some ⟨bm,0,none⟩) A.length cm) A'->fo (since g0 g2) (.slice cp cs.length cc) l'->(∀ x,x≠bm->g2 x=g1 x)->K (cN g2 bb vb q)):St (cN g1 bb vb q) bm off dO K:=by
 obtain⟨hr,pre,post,tt,rG,hpp,l8,l8',fin⟩:=u.end a gI hi hm hL;have NN:bb≠bm:=λe=>by have:=r.free;rw[e,rG]at this;cases this
 have GA:=Heap.aM (o:=Obj.cells (pre++dO++post).toArray tt (0,0)) L7 u.fresh.1;obtain⟨⟨A',hA⟩,l',hl⟩:=fin _ rfl;exact mQ r.free rG (by simp only[List.length_append];omega) (BO (by omega) (by rw[l8,l8'])) (hK _ A' l' GA (r0.to GA (by simp[Heap.set,NN,r.free]) hq) hA hl λx hx=>by simp[Heap.set,hx])
theorem qd.stI {b off i:Nat} {pre x post:List Value} {t:TypeId} {y z:Int} (h0:g0.le g) (r:bD g bb vb q) (r0:bD g0 bb vb q0) (hq:q0<=q) (U:since g0 g b=some (.cells (pre++x++post).toArray t (0,0))) (cD:b≠bm) (ho:off=pre.length+i) (hx:x[i]? = some (.int .i64 z)) (hy:cL y)
  (hK:∀ g1,g0.le g1->bD g1 bb vb q->wL (since g0 g) (since g0 g1)->g1 bm=g bm->K (cN g1 bb vb q)):St (cN g bb vb q) b off [.int .i64 y] K:=by
 obtain⟨gA,bz⟩:=dM U;have NN:bb≠b:=λe=>by have:=r.free;rw[e,bz]at this;cases this
 have hi:=(List.getElem?_eq_some_iff.1 hx).1;have GA:=Heap.aM (o:=Obj.cells (pre++x.set i (.int .i64 y)++post).toArray t (0,0)) h0 gA;refine mQ r.free bz (by simp only[List.length_append,List.length_cons,List.length_nil];omega) (nu ho hi) (hK _ GA (r0.to GA (by simp[Heap.set,NN,r.free]) hq) ?_ (by simp[Heap.set,λe=>cD (Eq.symm e)];intro e;exact absurd e.symm cD));rw[lN gA];exact NO U hx hy
theorem qd.stS {b off:Nat} {pre post:List Value} {t:TypeId} {tv K8:Bool} {p1 p2:Option Addr} {n1 n2 c1 c2:Nat} {v1 v2:Value} {l1 l2:List Int} (h0:g0.le g) (r:bD g bb vb q) (r0:bD g0 bb vb q0) (hq:q0<=q) (U:since g0 g b=some (.cells (pre++[Value.bool tv,.slice p1 n1 c1,.slice p2 n2 c2]++post).toArray t (0,0))) (cD:b≠bm) (ho:off=pre.length) (h1:cT (since g0 g) v1 l1) (h2:cT (since g0 g) v2 l2)
  (hK:∀ g1,g0.le g1->bD g1 bb vb q->wL (since g0 g) (since g0 g1)->g1 bm=g bm->K (cN g1 bb vb q)):St (cN g bb vb q) b off [.bool K8,v1,v2] K:=by
 obtain⟨gA,bz⟩:=dM U;have NN:bb≠b:=λe=>by have:=r.free;rw[e,bz]at this;cases this
 have GA:=Heap.aM (o:=Obj.cells (pre++[Value.bool K8,v1,v2]++post).toArray t (0,0)) h0 gA;refine mQ r.free bz (by simp only[List.length_append,List.length_cons,List.length_nil];omega) (BO ho rfl) (hK _ GA (r0.to GA (by simp[Heap.set,NN,r.free]) hq) ?_ (by simp[Heap.set,λe=>cD (Eq.symm e)];intro e;exact absurd e.symm cD));rw[lN gA];exact DI U h1 h2
end
theorem GB {g:Heap} {bb:Nat} {vb:Value} {q:Int} {bytes sz:Nat} {zero:List Value} {el:TypeId} {p:Option Addr} {n cap m:Nat} {vs ic:List Value} {K:Value->Heap->Prop} (r:bD g bb vb q) (hc:cap < n+m) (gI:(n+m)*bytes<=2 ^ 44) (eX:n+m<=2 ^ 44) (ho:(p=none/\n=0/\ic=[])\/∃ b off,p=some ⟨b,off,none⟩/\eG g b off (n*sz)=some ic)
  (hk:∀ b c g',g b=none->b≠bb->g.le g'->bD g' bb vb q->n+m<=c->g' b=some (.cells (ic++vs++(List.replicate (c-(n+m)) zero).flatten).toArray el (0,0))->K (.slice (some ⟨b,0,none⟩) (n+m) c) (cN g' bb vb q)):App bytes sz zero el (cN g bb vb q) p n cap m vs K:=by
 rw[oH];unfold Aw;refine⟨λh=>by omega,λ_=>⟨gI,eX,ic,?_,λb c U L9=>?_⟩⟩
 ·rcases ho with ⟨rfl,h1,h2⟩|⟨b,off,rfl,h1⟩
  ·exact⟨h1,h2⟩
  ·exact bK (bh r.free) h1
 ·have cD:b≠bb:=by
   rintro rfl;obtain⟨o,ho⟩:=nG g b vb q;rw[ho]at U;cases U
  rw[eK cD]at U;have hl:g.le (g.set b (.cells (ic++vs++(List.replicate (c-(n+m)) zero).flatten).toArray el)):=Heap.aM (x_ g) U;rw[BI cD];exact hk b c _ U cD hl (r.to hl (by simp[Heap.set,λe=>cD (Eq.symm e),r.free];intro e;exact absurd e.symm cD) (Int.le_refl _)) L9 (cZ _ _ _)
open Go.Vc Go.Proofs.Tryz
set_option maxRecDepth 100000
set_option maxHeartbeats 4000000
theorem NP {G:Heap} {pk:Option Addr} {nk ck:Nat} {l:List mU} (hr:Row 4 CI G (.slice pk nk ck) l) (hk:(Value.slice pk nk ck=.slice none 0 0/\l=[])\/∃ bk,Value.slice pk nk ck=.slice (some ⟨bk,0,none⟩) 1 1/\l.length=1) :
  ck < nk+1/\nk<=1/\∃ ic,((pk=none/\nk=0/\ic=[])\/∃ b off,pk=some ⟨b,off,none⟩/\eG G b off (nk*4)=some ic) /\
   ∀(h:Heap) (b c:Nat) (rest:List Value) (t:TypeId) (z:mU),h b=some (.cells (ic++wY z++rest).toArray t (0,0))->nk+1<=c->rest.length=(c-(nk+1))*4->cL z.lo/\cL z.hi/\cL z.to/\cL z.cls->∃ l',Row 4 CI h (.slice (some ⟨b,0,none⟩) (nk+1) c) l':=by
 rcases hk with ⟨e,rfl⟩|⟨bk,e,hl⟩
 ·simp only[Value.slice.injEq]at e;obtain⟨rfl,rfl,rfl⟩:=e;refine⟨by omega,by omega,[],.inl ⟨rfl,rfl,rfl⟩,λh b c rest t z U hc LW hz=>⟨[z],?_⟩⟩;have ho:cn 4 h (.slice (some ⟨b,0,none⟩) (0+1) c) ([z].map wY) [b]:=⟨λy hy=>by obtain⟨w,_,rfl⟩:=List.mem_map.1 hy;rfl,.inr ⟨b,c,rest,t,by simp,by simpa using hc,by simpa using U,by simp[wY];omega,rfl⟩⟩
  exact ho.BL (by simp) λy hy=>⟨rfl,by rw[List.mem_singleton.1 hy];exact hz⟩
 ·simp only[Value.slice.injEq]at e;obtain⟨rfl,rfl,rfl⟩:=e;obtain⟨w,rfl⟩:∃ w,l=[w]:=by
   match l,hl with
   | [w],_=>exact⟨w,rfl⟩
  obtain⟨b0,off,vs,e1,e2,e3⟩:=hr.get (i:=0) (by simp);simp only[Option.some.injEq,Addr.mk.injEq,and_true]at e1;obtain⟨rfl,rfl⟩:=e1;obtain⟨rfl,w1⟩:=e3;refine⟨by omega,by omega,wY w,.inr ⟨bk,0,rfl,by simpa [wY]using e2⟩,λh b c rest t z U hc LW hz=>⟨[w,z],?_⟩⟩;have ho:cn 4 h (.slice (some ⟨b,0,none⟩) (1+1) c) ([w,z].map wY) [b]:=⟨λy hy=>by obtain⟨w,_,rfl⟩:=List.mem_map.1 hy;rfl,.inr ⟨b,c,rest,t,by simp,by simpa using hc,by simpa using U,by simp[wY];omega,rfl⟩⟩
  refine ho.BL (by simp) λy hy=>⟨rfl,?_⟩
  simp only[List.mem_cons,List.not_mem_nil,or_false]at hy;rcases hy with rfl|rfl
  ·exact w1
  ·exact hz
theorem NQ {sz:Nat} {b off c:Nat} {K:Option Addr->Prop} (hk:∀ dU,(1 < c->dU=off+sz)->K (some ⟨b,dU,none⟩)) (hc:0 < c) (hs:0 < sz):Sub (some ⟨b,off,none⟩) c 1 sz K:=by
 refine sub λoa h1 h2=>?_;by_cases e:c=1
 ·rw[h2 e];exact hk _ (λh=>by omega)
 ·rw[h1 e];have:(Option.map (λa=>Addr.add a (1*sz)) (some ⟨b,off,none⟩):Option Addr)=some ⟨b,off+sz,none⟩:=by
   simp only[Option.map_some,Addr.add];rw[if_neg (by omega),Nat.one_mul]
  rw[this];exact hk _ (λ_=>rfl)
theorem H8 {α:Type} {sz:Nat} {R:Heap->List Value->α->Prop} {h:Heap} {b off dU n c:Nat} {l:List α} (hr:Row sz R h (.slice (some ⟨b,off,none⟩) n c) l) (h1:1 < c->dU=off+sz):Row sz R h (.slice (some ⟨b,dU,none⟩) (n-1) (c-1)) (l.drop 1):=by
 obtain⟨h0,p',c',e,h2,h3⟩:=hr;simp only[Value.slice.injEq]at e;obtain⟨rfl,rfl,rfl⟩:=e;refine⟨by simp;omega,some ⟨b,dU,none⟩,c-1,by simp,by simp;omega,?_⟩;by_cases e:l.length<=1
 ·exact .inl (List.drop_eq_nil_of_le e)
 ·rcases h3 with rfl|⟨b',o',e',hx⟩
  ·simp at e
  ·simp only[Option.some.injEq,Addr.mk.injEq,and_true]at e';obtain⟨rfl,rfl⟩:=e';refine .inr ⟨b,dU,rfl,λi x hi=>?_⟩;obtain⟨vs,a1,a2⟩:=hx (i+1) x (by rw[List.getElem?_drop]at hi;rw[Nat.add_comm];exact hi);refine⟨vs,?_,a2⟩;rw[h1 (by omega)];rw[Nat.succ_mul]at a1;rw[show off+sz+i*sz=off+(i*sz+sz)by omega];exact a1
theorem H9 {g0 g:Heap} {bb bm:Nat} {vb:Value} {q0 q:Int} {el:TypeId} {p:Option Addr} {n cap m:Nat} {l:List Int} {vs:List Value} {y:Int} {K:Value->Heap->Prop} (h0:g0.le g) (r:bD g bb vb q) (r0:bD g0 bb vb q0) (hq:q0<=q) (hz:sq (aW (since g0 g) bm) (.slice p n cap) l) (hl:l.length<=100) (iT:vs=[.int .i64 y]) (hm:m=1) (hy:cL y) (iq:∃ o,g bm=some o)
  (hk:∀ g1 p' c' l',g0.le g1->bD g1 bb vb q->wL (since g0 g) (since g0 g1)->g1 bm=g bm->cT (since g0 g1) (.slice p' (n+1) c') l'->K (.slice p' (n+1) c') (cN g1 bb vb q)):App 8 1 [.int .i64 0] el (cN g bb vb q) p n cap m vs K:=by
 subst iT hm;obtain⟨ob,sQ⟩:=iq;have OG:n=l.length:=by
  obtain⟨_,_,e⟩:=hz.form;simp only[Value.slice.injEq]at e;exact e.2.1
 have cG:∀ x∈l,cL x:=by
  obtain⟨B,hz⟩:=hz;rcases hz with ⟨_,rfl,_⟩|⟨c,r,t,_,_,hi,_⟩
  ·simp
  ·exact λx hx=>hi x (by simp[hx])
 have X5:∀ x∈l++[y],cL x:=λx hx=>by
  simp only[List.mem_append,List.mem_singleton]at hx;rcases hx with hx|rfl
  ·exact cG x hx
  ·exact hy
 by_cases hc:cap < n+1
 ·have hold:(p=none/\n=0/\l.map (Value.int .i64)=[])\/∃ b off,p=some ⟨b,off,none⟩/\eG g b off (n*1)=some (l.map (Value.int .i64)):=by
   obtain⟨B,hz⟩:=hz;rcases hz with ⟨e,rfl,_⟩|⟨c,r,t,e,U,_,_⟩
   ·simp only[Value.slice.injEq]at e;exact .inl ⟨e.1,e.2.1,rfl⟩
   ·simp only[Value.slice.injEq]at e;refine .inr ⟨c,0,e.1,bK (aJ g0 g) (bK (gF _ bm) ?_)⟩;rw[bP U (n*1) 0 (by simp;omega),List.map_append,List.drop_zero,List.take_left' (by simp[OG])]
  refine GB r hc (by omega) (by omega) hold (λb c g' U cD hle r' L9 hg=>?_);have hs:since g0 g' b=some (.cells ((l++[y]).map (Value.int .i64)++(List.replicate (c-(n+1)) [Value.int .i64 0]).flatten).toArray el (0,0)):=by
   rw[eP (bp h0 U),hg];simp
  have hi:=mN hs (by simp;omega) (c:=c) (by simp;omega) X5;have en:(l++[y]).length=n+1:=by simp[OG]
  rw[en]at hi;exact hk g' _ c (l++[y]) (ww h0 hle) r' (wL.of_le (bW g0 hle)) (by rw[sQ];exact hle _ _ sQ) hi
 ·obtain⟨B,hz⟩:=hz;rcases hz with ⟨e,rfl,_⟩|⟨c,w,t,e,U,hi,_⟩
  ·simp only[Value.slice.injEq]at e;omega
  ·simp only[Value.slice.injEq]at e;obtain⟨rfl,_,rfl⟩:=e;have Hs:c≠bm:=by
    rintro rfl;simp[aW]at U
   have eX:since g0 g c=some (.cells ((l++w).map (Value.int .i64)).toArray t (0,0)):=by
    unfold aW at U;rw[if_neg Hs]at U;exact U
   obtain⟨gA,rU⟩:=dM eX;have cD:c≠bb:=by rintro rfl;rw[r.free]at rU;cases rU
   obtain⟨z,w',rfl⟩:∃ z w',w=z::w':=by
    cases w with
    | nil=>simp at hc;omega
    | cons z w'=>exact⟨z,w',rfl⟩
   have ew:ep ((l++z::w').map (Value.int .i64)) (0+n*1) [Value.int .i64 y]=((l++[y])++w').map (Value.int .i64):=by
    have:=gT [Value.int .i64 y] (l.map (Value.int .i64)) ((z::w').map (Value.int .i64)) (by simp);rw[List.map_append,show 0+n*1=(l.map (Value.int .i64)).length by simp[OG],this];simp
   have es:((l++[y])++w').map (Value.int .i64)=((l++z::w').map (Value.int .i64)).set l.length (.int .i64 y):=by
    simp[List.set_append]
   rw[oH];unfold Aw;refine⟨λ_=>⟨rfl,?_⟩,λh=>by omega⟩;refine⟨_,t,by rw[eK cD];exact rU,by simp;omega,?_⟩;have rM:=Heap.aM (o:=Obj.cells (((l++[y])++w').map (Value.int .i64)).toArray t (0,0)) h0 gA;have hs:since g0 (g.set c (.cells (((l++[y])++w').map (Value.int .i64)).toArray t (0,0)))=(since g0 g).set c (.cells (((l++[y])++w').map (Value.int .i64)).toArray t (0,0)):=lN gA;have fI:=mN (h:=since g0 (g.set c (.cells (((l++[y])++w').map (Value.int .i64)).toArray t (0,0)))) (b:=c) (c:=(l++z::w').length) (l:=l++[y]) (rest:=w'.map (Value.int .i64)) (t:=t) (fz:=(0,0)) (by rw[hs,cZ,List.map_append]) (by simp;omega) (by simp) X5;have en:(l++[y]).length=n+1:=by simp[OG]
   rw[en]at fI;simp only[List.toList_toArray];rw[ew,BI cD];refine hk _ _ _ (l++[y]) rM (r0.to rM (by simp[Heap.set,λe=>cD (Eq.symm e),r.free];intro e;exact absurd e.symm cD) hq) ?_ (by simp[Heap.set,λe=>Hs (Eq.symm e)];intro e;exact absurd e.symm Hs) fI;rw[hs,es];exact wM (x:=z) (cs:=(l++z::w').map (Value.int .i64)) eX (by simp) hy
theorem Ln {α:Type} (k:Nat) (z:List α):(List.replicate k z).flatten.length=k*z.length:=by
 induction k with
 | zero=>simp
 | succ k ih=>rw[List.replicate_succ,List.flatten_cons,List.length_append,ih,Nat.succ_mul];omega
theorem NR {G:Heap} {bm:Nat} {x1 x2 x3 x4:Int} {a a' c s k:Value} {m:cB} {l:List Int} (hm:oB G bm [.int .i64 x1,.int .i64 x2,a,.int .i64 x3,.int .i64 x4,c,s,k] m) (hi:cT G a' l):oB G bm [.int .i64 x1,.int .i64 x2,a',.int .i64 x3,.int .i64 x4,c,s,k] {m with args:=l}:=by
 refine⟨?_,λy1 y2 b y3 y4 c' p n cc k' e=>hm.at_ y1 y2 a y3 y4 c' p n cc k' ?_⟩
 ·obtain⟨a0,c0,s0,k0,e,i1,i2,i3,i4,w1,w2,w3,w4⟩:=hm.read;simp only[List.cons.injEq,and_true]at e;obtain⟨e1,e2,rfl,e3,e4,rfl,rfl,rfl⟩:=e;exact⟨a',_,_,_,by rw[e1,e2,e3,e4],i1,i2,i3,i4,hi,w2,w3,w4⟩
 ·simp only[List.cons.injEq,and_true]at e ⊢;exact⟨e.1,e.2.1,trivial,e.2.2.2⟩
theorem oB.le {g g':Heap} {bm:Nat} {rec:List Value} {m:cB} (hl:g.le g') (hm:oB g bm rec m):oB g' bm rec m:=⟨hm.read.le hl,hm.at_⟩
theorem Au {g0 g:Heap} {bb:Nat} {vb:Value} {q0 p:Int} {cp:Option Addr} {cc:Nat} {cs:List dR} {bm cm:Nat} {aP:List (List Value)} {A:List cB} (r0:bD g0 bb vb q0) (r:bD g bb vb p) (hq:q0<=p) (hp:p<=50000000) (h0:g0.le g) (nz:NF (since g0 g)) (u:qd g0 g cp cc cs bm cm aP A A.length) :
  DrW prog 72 [.pointer (some ⟨bb,0,none⟩),.agg #[.slice cp cs.length cc,.slice (some ⟨bm,0,none⟩) A.length cm]] g0 g bb vb p 1000 λg' v=>∃ us u',v=.agg ⟨us⟩/\dL g' us u':=by
 have Rm:=u.num;have QK:=u.ok.1;have zm:=u.ok.2.1;have mS:∃ o,g bm=some o:=u.fresh.2;refine bS au func72 G72 W9 rfl ?_;conv=>whnf
 refine bF r (by omega) (λk k0 k1 k2 r1=>?_);have BQ:k.toNat < A.length:=by omega
 have f:=u.row.at BQ;obtain⟨L0,e3,hf,_⟩:=f;have md:=u.mid k.toNat L0 BQ;have Em:decide (k.toNat < A.length)=true:=by simp[BQ]
 rw[Em]at md;have hw:=md.wh rfl;obtain⟨⟨V1,RB⟩,Xt,LZ,a,bc,kc,bs,ks,kv,e,⟨R7,Mc⟩,oP⟩:=hw;have Lh:=md.head;clear md;have hB:=hf.Cf;have hex:=hf.ex;rw[e]at hex hB e3;clear e hf Em;generalize A[k.toNat]=m at V1 RB Xt LZ oP Lh hB hex e3;obtain⟨a',c',s',k',e',i1,i2,i3,i4,⟨az,an⟩,rc,rs,rk,_⟩:=hex;simp only[List.cons.injEq,and_true,true_and]at e';obtain⟨rfl,rfl,rfl,rfl⟩:=e';have f:=az.form;obtain⟨ap,ac,rfl⟩:=f;have XX:∃ p n c,kv=Value.slice p n c:=by
  rcases oP with ⟨rfl,_⟩|⟨bk,rfl,_⟩
  ·exact⟨_,_,_,rfl⟩
  ·exact⟨_,_,_,rfl⟩
 obtain⟨pk,nk,ck,rfl⟩:=XX;have Bn:=NP rk oP;have R9:m.aL.length<=ks:=by
  obtain⟨_,_,e3,h4,_⟩:=rs.len;simp only[Value.slice.injEq]at e3;omega
 have sG:=Lh.2.2.2.2.1;have zB:0<=m.locals:=by have:=Lh.2.2.2.2.2;omega
 have Ce:eG (cN g bb vb (p+1)) bm (0+k.toNat*8) 8=some _:=bK (bh r1.free) (bK (aJ _ _) e3);conv=>whnf
 refine aq ?_;conv=>whnf
 refine ptr ?_;conv=>whnf
 refine dK Ce ?_;conv=>whnf
 refine bF r1 (by omega) (λat_ a0 a1 a2 r2=>?_);have m4:at_.toNat < m.code.length:=by omega
 have NS:at_.toNat < m.aL.length:=by omega
 have f:=oA rc nz (by omega) m4;obtain⟨b1,o1,vs1,abm,X6,t1,zD,N1,gI,FD,Lo,s9,Ij⟩:=f;simp only[Option.some.injEq,Addr.mk.injEq,and_true]at zD;obtain⟨rfl,rfl⟩:=zD;obtain⟨rfl,j1,j2,j3⟩:=Ij;have f:=oA rs nz (by omega) NS;obtain⟨b2,o2,Ji,abn,Ge,t2,E2,Y3,eX,yj,NT,Q6,IE⟩:=f;simp only[Option.some.injEq,Addr.mk.injEq,and_true]at E2;obtain⟨rfl,rfl⟩:=E2;obtain⟨sv1,sv2,rfl,Lq,RC⟩:=IE;have f:=Lq.len;obtain⟨_,_,rfl,_,_⟩:=f;have f:=RC.len;obtain⟨_,_,rfl,_,_⟩:=f;have Sb:cT (since g0 g) (.slice ap m.args.length ac) m.args:=(az.ints (by omega)).le (gF _ _);have Sc:wL (since g0 g) (since g0 g):=wL.of_le (x_ _);conv=>whnf
 refine bF r2 (by omega) (λx x0 x1 x2 r3=>?_);conv=>whnf
 apply ax<;>intro c0;all_goals conv=>whnf
 ·have ja:rd (cN g bb vb (p+1+1+1)) bc (0+at_.toNat*3+1)=some (.int .i64 m.code[at_.toNat].a):=aX (bh r3.free) (aX (aJ _ _) (aK s9 (i:=1) rfl));have jb:rd (cN g bb vb (p+1+1+1+1)) bc (0+at_.toNat*3+1)=some (.int .i64 m.code[at_.toNat].a):=aX (bh r3.free) (aX (aJ _ _) (aK s9 (i:=1) rfl));repeat' ((first|exact trivial|apply And.intro|refine ld ja ?_|refine ld jb ?_|refine bF r3 (by omega) (λy y0 y1 y2 r5=>?_)|refine aq ?_|refine ptr ?_|refine qn ?_)<;>conv=>whnf)
  all_goals
   refine qd.stI h0 (bD.on r3 (by omega)) r0 (by omega) FD R7 (i:=1) (by rw[Lo]) rfl (Ll _) (λg4 l4 r4 ak Lr=>?_);conv=>whnf
   refine(hB.Lm ak).elim λm2 wC=>?_;refine aq ?_;conv=>whnf
   refine ptr ?_;conv=>whnf
   refine u.pW (ak.Cf bm) Lr BQ wC (iX i1 i2 i3 i4) r4 r0 (by omega) l4 rfl (λg9 A9 l9 vY r9 zd um Ir=>?_);conv=>whnf
   exact⟨_,_,rfl,vY,r9.free,by omega,by omega,_,⟨l9,A9⟩,rfl,_,_,rfl,um.le (aJ _ _) (λ_ _ hx=>hx.le (aJ _ _)),zd.le (aJ _ _) (λ_ _ hx=>hx.le (aJ _ _))⟩
 apply ax<;>intro c1;all_goals conv=>whnf
 ·refine bF r3 (by omega) (λy y0 y1 y2 r5=>?_);conv=>whnf
  refine aj ?_;conv=>whnf
  refine aq ?_;conv=>whnf
  refine ptr ?_;conv=>whnf
  refine qd.stI h0 (bD.on r3 (by omega)) r0 (by omega) FD R7 (i:=2) (by rw[Lo]) rfl (by unfold cL;omega) (λg4 l4 r4 ak Lr=>?_);conv=>whnf
  refine(hB.Lm ak).elim λm2 wC=>?_;refine aq ?_;conv=>whnf
  refine ptr ?_;conv=>whnf
  refine u.pW (ak.Cf bm) Lr BQ wC (iX i1 i2 i3 i4) r4 r0 (by omega) l4 rfl (λg9 A9 l9 vY r9 zd um Ir=>?_);conv=>whnf
  exact⟨_,_,rfl,vY,r9.free,by omega,by omega,_,⟨l9,A9⟩,rfl,_,_,rfl,um.le (aJ _ _) (λ_ _ hx=>hx.le (aJ _ _)),zd.le (aJ _ _) (λ_ _ hx=>hx.le (aJ _ _))⟩
 apply ax<;>intro c2;all_goals conv=>whnf
 ·refine bF r3 (by omega) (λy y0 y1 y2 r5=>?_);conv=>whnf
  refine aq ?_;conv=>whnf
  refine ptr ?_;conv=>whnf
  refine qd.stI h0 (bD.on r3 (by omega)) r0 (by omega) FD R7 (i:=0) (by rw[Lo]) rfl (by unfold cL;omega) (λg4 l4 r4 ak Lr=>?_);conv=>whnf
  refine(hB.Lm ak).elim λm2 wC=>?_;refine aq ?_;conv=>whnf
  refine ptr ?_;conv=>whnf
  refine u.pW (ak.Cf bm) Lr BQ wC (iX i1 i2 i3 i4) r4 r0 (by omega) l4 rfl (λg9 A9 l9 vY r9 zd um Ir=>?_);conv=>whnf
  exact⟨_,_,rfl,vY,r9.free,by omega,by omega,_,⟨l9,A9⟩,rfl,_,_,rfl,um.le (aJ _ _) (λ_ _ hx=>hx.le (aJ _ _)),zd.le (aJ _ _) (λ_ _ hx=>hx.le (aJ _ _))⟩
 apply ax<;>intro c3;all_goals conv=>whnf
 ·refine iC r3 (y5 cs.length m.locals r3 (by omega) h0 (by omega) (by omega)) (λv g4 q4 l4 r4 XI XJ hA=>?_);refine hA.elim λtv hA=>hA.elim λp5 hA=>hA.elim λn5 hA=>hA.elim λc5 hA=>hA.elim λp6 hA=>hA.elim λn6 hA=>hA.elim λc6 hA=>hA.elim λl5 hA=>hA.elim λl6 hA=>?_;have hv:=hA.1;subst hv;have XW:=ww h0 l4;have lm:=bW g0 l4;conv=>whnf
  refine aq ?_;conv=>whnf
  refine ptr ?_;conv=>whnf
  refine qd.stS (bm:=bm) XW r4 r0 (by omega) (lm _ _ yj) Mc (by rw[NT]) hA.2.1 hA.2.2 (λg6 l6 r6 ak Li=>?_);conv=>whnf
  refine(hB.Lm (wL.trans (wL.of_le lm) ak)).elim λm2 wC=>?_;refine aq ?_;conv=>whnf
  refine ptr ?_;conv=>whnf
  refine(u.aG l4).pW (ak.Cf bm) Li BQ wC (iX i1 i2 i3 i4) r6 r0 (by omega) l6 rfl (λg9 A9 l9 vY r9 zd um Ir=>?_);conv=>whnf
  exact⟨_,_,rfl,vY,r9.free,by omega,by omega,_,⟨l9,A9⟩,rfl,_,_,rfl,um.le (aJ _ _) (λ_ _ hx=>hx.le (aJ _ _)),zd.le (aJ _ _) (λ_ _ hx=>hx.le (aJ _ _))⟩
 apply ax<;>intro c4;all_goals conv=>whnf
 ·refine aq ?_;conv=>whnf
  refine NQ (λdU ho=>?_) (by omega) (by decide);conv=>whnf
  have wC:oB (since g0 g) bm _ {m with aL:=m.aL.drop 1}:=H7 ⟨_,_,_,_,rfl,i1,i2,i3,i4,Sb,rc,H8 rs ho,rk⟩ Mc;refine aq ?_;conv=>whnf
  refine ptr ?_;conv=>whnf
  refine u.pW (Sc.Cf bm) rfl BQ wC (iX i1 i2 i3 i4) r3 r0 (by omega) h0 rfl (λg9 A9 l9 vY r9 zd um Ir=>?_);conv=>whnf
  exact⟨_,_,rfl,vY,r9.free,by omega,by omega,_,⟨l9,A9⟩,rfl,_,_,rfl,um.le (aJ _ _) (λ_ _ hx=>hx.le (aJ _ _)),zd.le (aJ _ _) (λ_ _ hx=>hx.le (aJ _ _))⟩
 apply ax<;>intro c5;all_goals conv=>whnf
 ·refine bF r3 (by omega) (λy y0 y1 y2 r5=>?_);conv=>whnf
  have hy:cL y:=by unfold cL;omega
  have wC:oB (since g0 g) bm _ {m with locals:=y}:=H7 ⟨_,_,_,_,rfl,i1,i2,i3,hy,Sb,rc,rs,rk⟩ Mc;refine aq ?_;conv=>whnf
  refine ptr ?_;conv=>whnf
  refine u.pW (Sc.Cf bm) rfl BQ wC (iX i1 i2 i3 hy) r5 r0 (by omega) h0 rfl (λg9 A9 l9 vY r9 zd um Ir=>?_);conv=>whnf
  exact⟨_,_,rfl,vY,r9.free,by omega,by omega,_,⟨l9,A9⟩,rfl,_,_,rfl,um.le (aJ _ _) (λ_ _ hx=>hx.le (aJ _ _)),zd.le (aJ _ _) (λ_ _ hx=>hx.le (aJ _ _))⟩
 apply ax<;>intro c6;all_goals conv=>whnf
 ·refine iC r3 (rP cs.length r3 (by omega) (by omega)) (λv g4 q4 l4 r4 XI XJ hA=>?_);obtain⟨rfl,y,rfl,y0,y1⟩:=hA;conv=>whnf
  have hy:cL y:=by unfold cL;omega
  have wC:oB (since g0 g4) bm _ {m with out:=y}:=H7 ⟨_,_,_,_,rfl,i1,i2,hy,i4,Sb,rc,rs,rk⟩ Mc;refine aq ?_;conv=>whnf
  refine ptr ?_;conv=>whnf
  refine u.pW (Sc.Cf bm) rfl BQ wC (iX i1 i2 hy i4) r4 r0 (by omega) h0 rfl (λg9 A9 l9 vY r9 zd um Ir=>?_);conv=>whnf
  exact⟨_,_,rfl,vY,r9.free,by omega,by omega,_,⟨l9,A9⟩,rfl,_,_,rfl,um.le (aJ _ _) (λ_ _ hx=>hx.le (aJ _ _)),zd.le (aJ _ _) (λ_ _ hx=>hx.le (aJ _ _))⟩
 apply ax<;>intro c7;all_goals conv=>whnf
 ·refine Bn.2.2.elim λic Pd=>?_;have hnk:=Bn.2.1;refine bF r3 (by omega) (λy1 y10 y11 y12 r41=>?_);conv=>whnf
  refine bF r41 (by omega) (λy2 y20 y21 y22 r42=>?_);conv=>whnf
  refine bF r42 (by omega) (λy3 y30 y31 y32 r43=>?_);conv=>whnf
  refine bF r43 (by omega) (λy4 y40 y41 y42 r44=>?_);conv=>whnf
  refine GB r44 Bn.1 (by show(nk+1)*32<=2 ^ 44;omega) (by omega) (Pd.1.imp id (λ⟨b,off,e,h⟩=>⟨b,off,e,bK (aJ g0 g) h⟩)) (λb5 c5 g5 qw abY l5 r5 zm hg5=>?_);have h05:=ww h0 l5;have ls:=bW g0 l5;have qb:=Pd.2 (since g0 g5) b5 c5 _ _ ⟨y1,y2,y3,y4⟩ (by rw[eP (bp h0 qw)];exact hg5) zm (Ln _ _) (by simp only;unfold cL;omega);conv=>whnf
  refine qb.elim λl' qb=>?_;have wC:oB (since g0 g5) bm _ {m with catches:=l' }:=H7 ⟨_,_,_,_,rfl,i1,i2,i3,i4,Sb.le ls,rc.le ls (λ_ _ hx=>hx),rs.le ls (λ_ _ hx=>hx.le ls),qb⟩ Mc;refine aq ?_;conv=>whnf
  refine ptr ?_;conv=>whnf
  refine(u.aG l5).pW ((wL.of_le (x_ _)).Cf bm) rfl BQ wC (iX i1 i2 i3 i4) r5 r0 (by omega) h05 rfl (λg9 A9 l9 vY r9 zd um Ir=>?_);conv=>whnf
  exact⟨_,_,rfl,vY,r9.free,by omega,by omega,_,⟨l9,A9⟩,rfl,_,_,rfl,um.le (aJ _ _) (λ_ _ hx=>hx.le (aJ _ _)),zd.le (aJ _ _) (λ_ _ hx=>hx.le (aJ _ _))⟩
 apply ax<;>intro c8;all_goals conv=>whnf
 ·refine bF r3 (by omega) (λy y0 y1 y2 r5=>?_);conv=>whnf
  refine aj ?_;conv=>whnf
  have hy:cL (y-2):=by unfold cL;omega
  have wC:oB (since g0 g) bm _ {m with cls:=y-2}:=H7 ⟨_,_,_,_,rfl,hy,i2,i3,i4,Sb,rc,rs,rk⟩ Mc;refine aq ?_;conv=>whnf
  refine ptr ?_;conv=>whnf
  refine u.pW (Sc.Cf bm) rfl BQ wC (iX hy i2 i3 i4) r5 r0 (by omega) h0 rfl (λg9 A9 l9 vY r9 zd um Ir=>?_);conv=>whnf
  exact⟨_,_,rfl,vY,r9.free,by omega,by omega,_,⟨l9,A9⟩,rfl,_,_,rfl,um.le (aJ _ _) (λ_ _ hx=>hx.le (aJ _ _)),zd.le (aJ _ _) (λ_ _ hx=>hx.le (aJ _ _))⟩
 apply ax<;>intro c9;all_goals conv=>whnf
 ·refine bF r3 (by omega) (λy y0 y1 y2 r5=>?_);conv=>whnf
  have hy:cL y:=by unfold cL;omega
  have wC:oB (since g0 g) bm _ {m with eL:=y}:=H7 ⟨_,_,_,_,rfl,i1,hy,i3,i4,Sb,rc,rs,rk⟩ Mc;refine aq ?_;conv=>whnf
  refine ptr ?_;conv=>whnf
  refine u.pW (Sc.Cf bm) rfl BQ wC (iX i1 hy i3 i4) r5 r0 (by omega) h0 rfl (λg9 A9 l9 vY r9 zd um Ir=>?_);conv=>whnf
  exact⟨_,_,rfl,vY,r9.free,by omega,by omega,_,⟨l9,A9⟩,rfl,_,_,rfl,um.le (aJ _ _) (λ_ _ hx=>hx.le (aJ _ _)),zd.le (aJ _ _) (λ_ _ hx=>hx.le (aJ _ _))⟩
 apply ax<;>intro c10;all_goals conv=>whnf
 ·refine iC r3 (rP cs.length r3 (by omega) (by omega)) (λv g4 q4 l4 r4 XI XJ hA=>?_);obtain⟨rfl,y,rfl,y0,y1⟩:=hA;conv=>whnf
  have hy:cL y:=by unfold cL;omega
  refine H9 (bm:=bm) h0 r4 r0 (by omega) az an rfl rfl hy mS (λg6 p6 c6 l6' l6 r6 ak Li fI=>?_);conv=>whnf
  refine(hB.Lm ak).elim λm2 abo=>?_;have wC:=NR abo fI;refine aq ?_;conv=>whnf
  refine ptr ?_;conv=>whnf
  refine u.pW (ak.Cf bm) Li BQ wC (iX i1 i2 i3 i4) r6 r0 (by omega) l6 rfl (λg9 A9 l9 vY r9 zd um Ir=>?_);conv=>whnf
  exact⟨_,_,rfl,vY,r9.free,by omega,by omega,_,⟨l9,A9⟩,rfl,_,_,rfl,um.le (aJ _ _) (λ_ _ hx=>hx.le (aJ _ _)),zd.le (aJ _ _) (λ_ _ hx=>hx.le (aJ _ _))⟩
 ·refine iC r3 (K9 r3 (by omega) (x_ _)) (λv g4 q4 l4 r4 XI XJ hA=>?_);refine hA.elim λp5 hA=>hA.elim λn5 hA=>hA.elim λc5 hA=>hA.elim λl5 hA=>?_;have hv:=hA.1;subst hv;have XW:=ww h0 l4;conv=>whnf
  refine aq ?_;conv=>whnf
  refine ptr ?_;conv=>whnf
  refine(u.aG l4).pW ((wL.of_le (x_ _)).Cf bm) rfl BQ (hB.le (bW g0 l4)) (iX i1 i2 i3 i4) r4 r0 (by omega) XW rfl (λg9 A9 l9 vY r9 zd um Ir=>?_);conv=>whnf
  have lg:(since g g4).le g9:=λx o hx=>by
   obtain⟨h1,h2⟩:=dM hx;rw[Ir x (by rintro rfl;obtain⟨o',EI⟩:=mS;rw[EI]at h1;cases h1)];exact h2
  exact⟨_,_,rfl,vY,r9.free,by omega,by omega,_,⟨l5,A9⟩,rfl,_,_,rfl,hA.2.le lg (λ_ _ hx=>hx.le lg),zd.le (aJ _ _) (λ_ _ hx=>hx.le (aJ _ _))⟩
structure One (G G1:Heap):Prop where
 int:wX G G1
 same:∀ b off v,rd G b off=some v->(∀ x,v≠.int .i64 x)->rd G1 b off=some v
theorem NU {g g':Heap} (a:One g g'):DH g g' 2 CG:=by
 rintro b off vs x hv ⟨f,rfl,i1,i2⟩;obtain⟨_,_,rfl,_⟩:=i2.len;obtain⟨h1,hv⟩:=cV hv;obtain⟨h2,_⟩:=cV hv;obtain⟨x1,e1,j1⟩:=a.int _ _ _ h1 i1;obtain⟨l',j2,_⟩:=fL a.int i2;exact⟨_,⟨x1,l'⟩,dF e1 (lD (a.same _ _ _ h2 (λx h=>nomatch h))),_,rfl,j1,j2⟩
theorem NV {g g':Heap} (a:One g g'):DH g g' 3 lV:=by
 rintro b off vs x hv ⟨l1,l2,rfl,i1,i2⟩;obtain⟨_,_,rfl,_⟩:=i1.len;obtain⟨_,_,rfl,_⟩:=i2.len;obtain⟨h1,hv⟩:=cV hv;obtain⟨h2,hv⟩:=cV hv;obtain⟨h3,_⟩:=cV hv;obtain⟨m1,j1,_⟩:=fL a.int i1;obtain⟨m2,j2,_⟩:=fL a.int i2;exact⟨_,⟨x.told,m1,m2⟩,dF (a.same _ _ _ h1 (λx h=>nomatch h)) (dF (a.same _ _ _ h2 (λx h=>nomatch h)) (lD (a.same _ _ _ h3 (λx h=>nomatch h)))),_,_,rfl,j1,j2⟩
theorem NW {g g':Heap} (a:One g g'):DH g g' 8 ee:=by
 rintro b off vs m hv hm;obtain⟨p1,c1,p2,c2,p3,c3,p4,c4,rfl,i1,i2,i3,i4,h5,h6,h7,h8,_⟩:=hm.form;obtain⟨v0,hv⟩:=cV hv;obtain⟨v1,hv⟩:=cV hv;obtain⟨v2,hv⟩:=cV hv;obtain⟨v3,hv⟩:=cV hv;obtain⟨v4,hv⟩:=cV hv;obtain⟨v5,hv⟩:=cV hv;obtain⟨v6,hv⟩:=cV hv;obtain⟨v7,_⟩:=cV hv;obtain⟨x0,e0,j0⟩:=a.int _ _ _ v0 i1;obtain⟨x1,e1,j1⟩:=a.int _ _ _ v1 i2;obtain⟨x3,e3,j3⟩:=a.int _ _ _ v3 i3;obtain⟨x4,e4,j4⟩:=a.int _ _ _ v4 i4;have e2:=a.same _ _ _ v2 (λx h=>nomatch h);have e5:=a.same _ _ _ v5 (λx h=>nomatch h);have e6:=a.same _ _ _ v6 (λx h=>nomatch h);have e7:=a.same _ _ _ v7 (λx h=>nomatch h);obtain⟨l5,r5,_⟩:=fL a.int h5;obtain⟨l6,r6,_⟩:=iD (xu a.int) h6;obtain⟨l7,r7,_⟩:=iD (NV a) h7;obtain⟨l8,r8,_⟩:=iD (xw a.int) h8;exact⟨_,⟨x0,x1,l5,x3,x4,l6,l7,l8⟩,dF e0 (dF e1 (dF e2 (dF e3 (dF e4 (dF e5 (dF e6 (lD e7))))))),_,_,_,_,rfl,j0,j1,j3,j4,r5,r6,r7,r8⟩
theorem GC {g g':Heap} (a:One g g') {us:List Value} {u:aU} (hu:dL g us u):∃ u',dL g' us u':=by
 obtain⟨c,m,rfl,h1,h2⟩:=hu;obtain⟨l1,r1,_⟩:=iD (NU a) h1;obtain⟨l2,r2,_⟩:=iD (NW a) h2;exact⟨⟨l1,l2⟩,c,m,rfl,r1,r2⟩
theorem NX {G:Heap} {b:Nat} {pre x y post:List Value} {t:TypeId} (U:G b=some (.cells (pre++x++post).toArray t (0,0))) (hl:y.length=x.length) (hx:∀ v∈x,∃ z,v=.int .i64 z) (hy:∀ v∈y,∃ z,v=.int .i64 z/\cL z):One G (G.set b (.cells (pre++y++post).toArray t (0,0))):=by
 have key:∀ c off,(c=b/\∃ j,j < x.length/\off=pre.length+j)\/rd (G.set b (.cells (pre++y++post).toArray t (0,0))) c off=rd G c off:=by
  intro c off;by_cases e:c=b
  ·subst e;by_cases h1:off < pre.length
   ·right
    rw[lU];simp only[rd,U,List.getElem?_toArray];rw[List.append_assoc,List.append_assoc,List.getElem?_append_left h1,List.getElem?_append_left h1]
   ·by_cases h2:off < pre.length+x.length
    ·exact .inl ⟨rfl,off-pre.length,by omega,by omega⟩
    ·right
     rw[lU];simp only[rd,U,List.getElem?_toArray];rw[List.getElem?_append_right (by simp;omega),List.getElem?_append_right (by simp;omega)];simp[hl]
  ·exact .inr (mX e)
 have jO:(G.set b (.cells (pre++y++post).toArray t (0,0))) b=some (.cells (pre++y++post).toArray t (0,0)):=cZ _ _ _;refine⟨λc off z hz hi=>?_,λc off v hv hn=>?_⟩
 ·rcases key c off with ⟨rfl,j,hj,rfl⟩|e
  ·obtain⟨w,e1,e2⟩:=hy y[j] (w_ (by omega));exact⟨w,bG jO (i:=j) rfl (by rw[<-e1];exact v_ (by omega)),e2⟩
  ·exact⟨z,by rw[e];exact hz,hi⟩
 ·rcases key c off with ⟨rfl,j,hj,rfl⟩|e
  ·have h1:=bG U (i:=j) rfl (v_ hj);rw[hv]at h1;obtain⟨w,e1⟩:=hx x[j] (w_ hj);exact absurd ((Option.some.inj h1).trans e1) (hn w)
  ·rw[e];exact hv
theorem DR {P:Program} {f:FuncId} {args:List Value} {gs g:Heap} {R:Value->Heap->Prop} (hl:gs.le g) (hc:bI P f args gs R) :
  bI P f args g λv h'=>∃ hs,R v hs/\(∀ x,gs x=none->g x≠none->h' x=g x)/\(∀ x,gs x≠none\/g x=none->h' x=hs x)/\∀ x,gs x=none->g x≠none->hs x=none:=by
 intro w hv;refine(hc w (λb o hx=>hv b o (hl b o hx))).mono ?_;rintro e w' ⟨hs,m,hm⟩;have PD:∀ x,gs x=none->g x≠none->hs x=none:=λx h1 h2=>by
  cases hx:hs x with
  | none=>rfl
  | some o =>
   rcases m.xd x (by rw[hx];simp)with h3|h3
   ·exact absurd h1 h3
   ·cases hg:g x with
    | none=>exact absurd hg h2
    | some y=>have:=ey (hv x y hg);omega
 let h':Heap:=λx=>match gs x,g x with
  | none,some o=>some o
  | _,_=>hs x
 have e1:∀ x o,gs x=none->g x=some o->h' x=some o:=λx o h1 h2=>by simp[h',h1,h2]
 have e2:∀ x,gs x≠none\/g x=none->h' x=hs x:=λx h=>by
  cases h1:gs x with
  | none =>
   cases h2:g x with
   | none=>simp[h',h1,h2]
   | some o =>
    rcases h with h|h
    ·exact absurd h1 h
    ·rw[h2]at h;cases h
  | some y=>simp[h',h1]
 have mv:cP g w h' w':=by
  refine⟨λx y hx=>?_,λx hx hn=>?_,λx hx=>?_,m.size,m.fz,m.out⟩
  ·cases h1:gs x with
   | none =>
    cases h2:g x with
    | none=>rw[e2 x (.inr h2)]at hx;exact m.view x y hx
    | some o =>
     rw[e1 x o h1 h2]at hx;rw[m.aG x (ey (hv x o h2)) h1,<-hx];exact hv x o h2
   | some z=>rw[e2 x (.inl (by rw[h1];simp))]at hx;exact m.view x y hx
  ·refine m.aG x hx ?_;cases h1:gs x with
   | none=>rfl
   | some o=>rw[hl x o h1]at hn;cases hn
  ·by_cases h2:g x=none
   ·rw[e2 x (.inr h2)]at hx;rcases m.xd x hx with h3|h3
    ·left
     cases h1:gs x with
     | none=>exact absurd h1 h3
     | some o=>rw[hl x o h1];simp
    ·exact .inr h3
   ·exact .inl h2
 refine⟨h',mv,?_⟩;cases e with
 | returned v =>
  refine⟨hs,hm,λx h1 h2=>?_,e2,PD⟩;cases h3:g x with
  | none=>exact absurd h3 h2
  | some o=>exact e1 x o h1 h3
 | panicked c=>exact hm.elim
 | outgrown=>exact hm.elim
theorem Pe {P:Program} {f:FuncId} {args:List Value} {g:Heap} {bb:Nat} {vb:Value} {p k:Int} {A:Heap->Value->Prop} {K:Value->Heap->Prop} {E:List PanicEntry->Heap->Prop} (r:bD g bb vb p) (hc:Dr P f args g bb vb p k A)
  (hk:∀ v g' q,g.le g'->bD g' bb vb q->p<=q->q<=p+k->NF (since g g')->A g' v->K v (cN g' bb vb q)):Go.Vc.Call P f args (cN g bb vb p) K E :=
 aD (bI.fz hc) λv h' hh=>by
  obtain⟨⟨g',q,rfl,hl,U,h1,h2,hA⟩,hz⟩:=hh;refine hk v g' q hl (r.to hl U h1) h1 h2 (λb cs t z hx=>?_) hA;obtain⟨h3,h4⟩:=dM hx;have e:b≠bb:=by rintro rfl;rw[U]at h4;cases h4
  rcases hz b cs t z (by rw[eK e];exact h4)with h5|h5
  ·exact h5
  ·rw[eK e,h3]at h5;cases h5
end Go.Proofs
