/- Part 4 of the lemmas on which the law rests: what functions of the program and of the reference do; no conditions but those that each lemma states. -/
import Derived.Test.YtclenamodemnpaaGreatMf3
set_option linter.unusedSimpArgs false
set_option linter.unusedVariables false
namespace Go.Proofs
open Go.Vc Go.Proofs.Tryz
set_option maxRecDepth 100000
set_option maxHeartbeats 4000000
structure Acc {α:Type} (R:Heap->List Value->α->List Nat->Prop) (sz:Nat) (h0 h:Heap) (v:Value) (l:List α) (B A:List Nat):Prop where
 le:h0.le h
 own:eE R sz h v l B
 nd:Nd (B++A)
 fr:∀ b∈B++A,h0 b=none
 LI:∀ b∈A,∃ o,h b=some o
theorem Acc.start {α:Type} {R:Heap->List Value->α->List Nat->Prop} {sz:Nat} {h0 h:Heap} {A:List Nat} (hl:h0.le h) (nd:Nd A) (fr:∀ b∈A,h0 b=none) (LI:∀ b∈A,∃ o,h b=some o):Acc R sz h0 h (.slice none 0 0) [] [] A :=
 ⟨hl,⟨[],[],[],⟨by simp,.inl ⟨rfl,rfl,rfl⟩⟩,.nil,rfl⟩,nd,fr,LI⟩
theorem rC {α:Type} {R:Heap->List Value->α->List Nat->Prop} (hR:Kept R) (hI:MG R) {bytes sz:Nat} {zero:List Value} {el:TypeId} {h0 h h1:Heap} {p:Option Addr} {n cap:Nat} {l:List α} {a:α} {B A Bi:List Nat} {m:Nat} {vs:List Value} {K:Value->Heap->Prop}
  (ac:Acc R sz h0 h (.slice p n cap) l B A) (hl:h.le h1) (hy:R h1 vs a Bi) (hBi:Nd Bi) (hn:∀ b∈Bi,h b=none) (hm:m=1) (LG:vs.length=sz) (hc:dG vs=true) (hz:zero.length=sz)
  (gI:(l.length+1)*bytes<=2 ^ 44) (eX:l.length+1<=2 ^ 44)
  (hk:∀ p' c' h2 B',Acc R sz h0 h2 (.slice p' (l.length+1) c') (l++[a]) B' A->cC h h2 A->K (.slice p' (l.length+1) c') h2):App bytes sz zero el h1 p n cap m vs K:=by
 obtain⟨hle,own,nd,fr,LI⟩:=ac;have aaj:=own.in hI;have key:∀ b,b∈Bi->b ∉ B++A:=by
  intro b U hx;rcases List.mem_append.1 hx with hx|hx
  ·obtain⟨o,ho⟩:=aaj b hx;rw[hn b U]at ho;cases ho
  ·obtain⟨o,ho⟩:=LI b hx;rw[hn b U]at ho;cases ho
 have nd':Nd (B++A++Bi):=by
  have:=Nd.swap (A:=B++A) (X:=[]) (X':=Bi) (by simpa using nd) hBi (λb U=>.inr (key b U));exact this
 have fr':∀ b∈Bi,h0 b=none:=by
  intro b U;cases hh:h0 b with
  | none=>rfl
  | some o=>have:=hn b U;rw[hle b o hh]at this;cases this
 refine nU hR hI (h0:=h0) (own.aG hR (cC.of_le hl _)) hy (nd'.less λa=>by simp only[List.count_append];omega) (λb U=>?_) (Heap.le_trans hle hl) hm LG hc hz gI eX ?_
 ·rcases List.mem_append.1 U with U|U
  ·exact fr b (by simp[U])
  ·exact fr' b U
 intro v' h2 B' g1 g2 g3 g4 g5;obtain⟨p',c',rfl,oQ⟩:=g2.form;have hA:∀ b∈A,b ∉ B++Bi:=by
  intro b U hx;have:=nd' b;have h1:=List.count_pos_iff.2 U;have h2:=List.count_pos_iff.2 hx;simp only[List.count_append]at *;omega
 have tZ:cC h h2 A:=λb U o ho=>by
  have Om:=hl b o ho;rw[g5.ic b (by rw[Om];simp) (hA b U)];exact Om
 have hn:(l++[a]).length=l.length+1:=by simp
 rw[hn]at g2 ⊢;refine hk p' c' h2 B' ⟨g1,g2,?_,?_,λb U=>?_⟩ tZ
 ·have:=Nd.swap (A:=A) (X:=B++Bi) (X':=B') (nd'.perm λa=>by simp only[List.count_append];omega) g3 (λb U=>?_)
  ·exact this.perm λa=>by simp only[List.count_append];omega
  ·rcases g5.new b U with hx|hx
   ·exact .inl hx
   ·refine .inr λhy=>?_;obtain⟨o,ho⟩:=LI b hy;rw[hl b o ho]at hx;cases hx
 ·intro b U;rcases List.mem_append.1 U with U|U
  ·exact g4 b U
  ·exact fr b (by simp[U])
 ·obtain⟨o,ho⟩:=LI b U;exact⟨o,tZ b U o ho⟩
theorem CW (mc:List Value) (M:bZ) (h:Heap) (hr:xZ h mc M) :
  bI prog 83 [.agg ⟨mc⟩] h λv h'=>h.le h'/\∃ F5 B,v=.agg ⟨F5⟩/\gJ h' F5 M B/\Nd B/\∀ b∈B,h b=none:=by
 obtain⟨vo,vf,vs,rfl,s1,s2,ho,hf,hs⟩:=hr;obtain⟨po,co,rfl,_,_⟩:=ho.len;obtain⟨pf,cf,rfl,_,_⟩:=hf.len;have On:=hs;obtain⟨_,_,ps,cs,rfl,_⟩:=hs;refine bS au func83 F83 Z5 rfl ?_;unfold aB;conv=>whnf
 refine cE (Ju _ _ h On) ?_;rintro v h1 ⟨l1,Bs,os,ns⟩;refine⟨l1,?_⟩;have ff:=os.form;obtain⟨Oo,jt,rfl,_⟩:=ff;conv=>whnf
 refine fm [1,2,3,19,20,21] [1,2,3] (λs:Nat × Heap × Option Addr × Nat × List Nat=>s.1<=M.objs.length/\Acc lu 2 h s.2.1 (.slice s.2.2.1 s.1 s.2.2.2.1) (M.objs.take s.1) s.2.2.2.2 Bs/\dV s.2.1 (.slice Oo (M.said.map bO).length jt) M.said Bs) (λs=>M.objs.length-s.1)
  (λs=>([.l 1 0,.l 2 0,.l 3 0,.v (.slice po M.objs.length co),.v (.int .i64 M.objs.length),.v (.int .i64 s.1)],
   [some (aB (.slice po M.objs.length co) (.slice pf M.ag.length cf) (.slice ps (M.said.map bO).length cs) M),some [.slice none 0 0,.slice none 0 0,.slice none 0 0,.int .i64 0,.int .i64 0,.bool false,.int .i64 0],
    some (aB (.slice s.2.2.1 s.1 s.2.2.2.1) (.slice none 0 0) (.slice Oo (M.said.map bO).length jt) M)],s.2.1))
  (0,h1,none,0,[]) ⟨by omega,Acc.start l1 os.nd ns os.in,os⟩ rfl ?_
 rintro⟨i,h2,p,c,B⟩ ⟨hi,ac,os⟩;simp only at hi ac os ⊢;unfold aB;conv=>whnf
 apply ax<;>intro g;all_goals conv=>whnf
 ·have cG:i < M.objs.length:=by omega
  have e:=(ho.le ac.le (λ_ _ hx=>hx.le ac.le)).get cG;obtain⟨bb,off,xs,hq,e1,vv,rfl,e2⟩:=e;have Jm:=e2;obtain⟨_,_,pv,cv,rfl,_⟩:=e2;refine aq ?_;conv=>whnf
  refine aO hq ?_;conv=>whnf
  refine dK e1 ?_;conv=>whnf
  refine cE (ua _ _ h2 Jm) ?_;rintro v h3 ⟨l3,Bv,ov,nv⟩;refine⟨l3,?_⟩;have ff:=ov.form;obtain⟨pv',cv',rfl,_⟩:=ff;conv=>whnf
  refine rC jD xX (a:=M.objs[i]) (Bi:=Bv) ac l3 ⟨_,rfl,ov⟩ ov.nd nv rfl rfl rfl rfl (by simp;omega) (by simp;omega) ?_;intro p' c' h4 B' CX hk;have cO:(M.objs.take i).length=i:=by simp;omega
  rw[List.take_append_getElem cG,cO]at CX;rw[cO];conv=>whnf
  refine aj ?_;conv=>whnf
  exact dm (i+1,h4,p',c',B') ⟨by omega,CX,os.aG hk⟩ (by simp only;omega) rfl
 ·have nV:i=M.objs.length:=by omega
  subst nV;rw[List.take_length]at ac;have hA:Nd (B++Bs):=ac.nd;refine fm [2,3,38,39,40] [2,3] (λs:Nat × Heap × Option Addr × Nat × List Nat=>s.1<=M.ag.length/\Acc oY 4 h s.2.1 (.slice s.2.2.1 s.1 s.2.2.2.1) (M.ag.take s.1) s.2.2.2.2 (B++Bs)/\eE lu 2 s.2.1 (.slice p M.objs.length c) M.objs B/\dV s.2.1 (.slice Oo (M.said.map bO).length jt) M.said Bs) (λs=>M.ag.length-s.1)
   (λs=>([.l 2 0,.l 3 0,.v (.slice pf M.ag.length cf),.v (.int .i64 M.ag.length),.v (.int .i64 s.1)],
    [some [.slice none 0 0,.slice none 0 0,.slice none 0 0,.int .i64 0,.int .i64 0,.bool false,.int .i64 0],
     some (aB (.slice p M.objs.length c) (.slice s.2.2.1 s.1 s.2.2.2.1) (.slice Oo (M.said.map bO).length jt) M)],s.2.1))
   (0,h2,none,0,[]) ⟨by omega,Acc.start ac.le hA ac.fr (λb U=>(List.mem_append.1 U).elim (ac.own.in xX b) (ac.LI b)),ac.own,os⟩ rfl ?_
  rintro⟨i,h3,p2,c2,B2⟩ ⟨hi,x8,oo,os⟩;simp only at hi x8 oo os ⊢;unfold aB;conv=>whnf
  apply ax<;>intro g;all_goals conv=>whnf
  ·have cG:i < M.ag.length:=by omega
   have e:=(hf.le x8.le (λ_ _ hx=>hx.le x8.le)).get cG;obtain⟨bb,off,xs,hq,e1,v1,v2,rfl,e2,e3⟩:=e;have Jm:=e2;have e30:=e3;obtain⟨_,_,pv,cv,rfl,_⟩:=e2;obtain⟨_,_,pw,cw,rfl,_⟩:=e3;refine aq ?_;conv=>whnf
   refine aO hq ?_;conv=>whnf
   refine dK e1 ?_;conv=>whnf
   refine cE (AT _ _ _ h3 Jm e30) ?_;rintro v h4 ⟨l4,x,Bv,rfl,hx,x9,ov,ndv,nv⟩;refine⟨l4,?_⟩;have ov0:=ov;obtain⟨w1,w2,C1,C2,rfl,ow1,ow2,rfl⟩:=ov;obtain⟨pw1,cw1,rfl,_⟩:=ow1.form;obtain⟨pw2,cw2,rfl,_⟩:=ow2.form;conv=>whnf
   refine rC qz VT (a:=M.ag[i]) x8 l4 ov0 ndv nv rfl rfl rfl rfl (by simp;omega) (by simp;omega) ?_;intro p' c' h5 B' CX hk;have cO:(M.ag.take i).length=i:=by simp;omega
   rw[List.take_append_getElem cG,cO]at CX;rw[cO];conv=>whnf
   refine aj ?_;conv=>whnf
   exact dm (i+1,h5,p',c',B') ⟨by omega,CX,oo.aG jD hk.l,os.aG hk.r⟩ (by simp only;omega) rfl
  ·have nV:i=M.ag.length:=by omega
   subst nV;rw[List.take_length]at x8;refine⟨x8.le,_,B++B2++Bs,rfl,⟨_,_,_,B,B2,Bs,rfl,oo,x8.own,os,rfl⟩,x8.nd.perm λa=>by simp only[List.count_append];omega,λb U=>x8.fr b (by simp at U ⊢;grind)⟩
def cM (u:aU) (x:dX):Option (List Int) :=
 if x.kind=4\/x.kind=5\/x.kind=6\/x.kind=22 then some [0]
 else if x.kind=7\/x.kind=8\/x.kind=9 then some [1,1]
 else if x.kind=13\/x.kind=24 then some [1]
 else if x.kind=10\/x.kind=14\/x.kind=17\/x.kind=19\/x.kind=23 then some [2]
 else if x.kind=15 then some [2,1]
 else if x.kind=16 then some [2,1,0]
 else if x.kind=18 then some [2,0]
 else if x.kind=20 then some (List.replicate (br u x.a).args.length 0)
 else if x.kind=21 then (if find u x.a x.b < 0 then none else some (2::List.replicate (br u (find u x.a x.b)).args.length 0))
 else some []
theorem ya {c s:Int}:∀(l:List cB) (k:Int),je c s l k < k+l.length\/je c s l k = -1
 | [],k=>.inr rfl
 | m::r,k=>by
  rw[je];split
  ·left;simp;omega
  ·rcases ya (c:=c) (s:=s) r (k+1)with h|h
   ·left;simp at h ⊢;omega
   ·exact .inr h
theorem wz {u:aU} {s:Int}:∀(k:Nat) (c:Int),-1<=nQ u s k c/\(nQ u s k c < u.methods.length)
 | 0,c=>by simp[nQ];omega
 | k+1,c=>by
  rw[nQ];split
  ·split
   ·have h1:=ya (c:=c) (s:=s) u.methods 0;omega
   ·exact wz k _
  ·omega
theorem ji (u:aU) (c s:Int) : -1<=find u c s/\find u c s < u.methods.length:=wz _ _
theorem fR {vs:List (List Value)} {sz:Nat} {h:Heap} {b n:Nat} {t:TypeId} (hx:∀ x∈vs,x.length=sz) (hn:n=vs.length) (U:h b=some (.cells vs.flatten.toArray t (0,0))):cn sz h (.slice (some ⟨b,0,none⟩) n n) vs [b]:=by
 subst hn;exact⟨hx,.inr ⟨b,_,[],t,rfl,Nat.le_refl _,by simpa using U,by rw[List.append_nil,bQ hx],rfl⟩⟩
theorem P0 (us:List Value) (u:aU) (x:dX) (h:Heap) (hu:dL h us u) (ok:cj u.J) (G0:x.kind=20->0<=x.a/\x.a < u.methods.length) (LJ:x.kind=21->0<=x.a/\x.a < u.J.length) (hargs:∀ m∈u.methods,m.args.length<=2) :
  cH prog 195 [.agg ⟨us⟩,.agg #[.int .i64 x.kind,.int .i64 x.a,.int .i64 x.b]] h λo h'=>match o with
   | .ret v=>∃ ws,cM u x=some ws/\ws.length<=3/\h.le h'/\∃ B,dV h' v ws B/\∀ b∈B,h b=none
   | .lE c=>cM u x=none/\c=jE 0/\h.le h':=by
 have iJ:=hu;obtain⟨p,cc,q,d,rfl,hcs,fM,jN,hl2⟩:=hu.form;refine outs au func195 UI UJ rfl ?_;conv=>whnf
 have one:∀(ws:List Int),cM u x=some ws->ws.length<=3->∀ b t,h b=none->(∃ Ys,cM u x=some Ys/\Ys.length<=3/\h.le (h.set b (.cells (ws.map (.int .i64)).toArray t))/\∃ B,dV (h.set b (.cells (ws.map (.int .i64)).toArray t)) (.slice (some ⟨b,0,none⟩) ws.length ws.length) Ys B/\∀ b∈B,h b=none):=by
  intro ws h1 h2 b t U;refine⟨ws,h1,h2,Heap.aM (Heap.le_refl h) U,[b],fR (t:=t) (by simp[bO]) (by simp) (by simp[Heap.set,dA]),by simpa using U⟩
 have two:∀ k:Int,0<=k->k < u.methods.length->∃ bb off p c,q=some ⟨bb,off,none⟩/\rd h bb (off+k.toNat*8+2)=some (.slice p (br u k).args.length c)/\(br u k).args.length<=2:=by
  intro k h1 h2;have hi:k.toNat < u.methods.length:=by omega
  have e:=fM.get hi;obtain⟨bb,off,vs,hq,e1,e2⟩:=e;obtain⟨p1,c1,p2,c2,p3,c3,p4,c4,e3,_⟩:=e2.form;subst e3;have mY:br u k=u.methods[k.toNat]:=gv hi (by omega);exact⟨bb,off,p1,c1,hq,by rw[mY];exact aK e1 (i:=2) rfl,by rw[mY];exact hargs _ (List.getElem_mem _)⟩
 by_cases k1:x.kind=4\/x.kind=5\/x.kind=6\/x.kind=22
 ·repeat' ((first|refine b8 ?_|refine bL ?_|refine cU ?_|refine cF ?_|apply ax<;>intro _|apply aV<;>intro _|apply dS<;>intro _|apply bY<;>intro _|refine aq ?_|refine aj ?_|refine ptr ?_|refine new (λb U=>?_))<;>conv=>whnf)
  all_goals exact one [0] (by simp[cM,k1]) (by simp) b _ U
 by_cases k2:x.kind=7\/x.kind=8\/x.kind=9
 ·repeat' ((first|refine b8 ?_|refine bL ?_|refine cU ?_|refine cF ?_|apply ax<;>intro _|apply aV<;>intro _|apply dS<;>intro _|apply bY<;>intro _|refine aq ?_|refine aj ?_|refine ptr ?_|refine new (λb U=>?_))<;>conv=>whnf)
  all_goals exact one [1,1] (by simp[cM,k1,k2]) (by simp) b _ U
 by_cases k3:x.kind=13\/x.kind=24
 ·repeat' ((first|refine b8 ?_|refine bL ?_|refine cU ?_|refine cF ?_|apply ax<;>intro _|apply aV<;>intro _|apply dS<;>intro _|apply bY<;>intro _|refine aq ?_|refine aj ?_|refine ptr ?_|refine new (λb U=>?_))<;>conv=>whnf)
  all_goals exact one [1] (by simp[cM,k1,k2,k3]) (by simp) b _ U
 by_cases k4:x.kind=10\/x.kind=14\/x.kind=17\/x.kind=19\/x.kind=23
 ·repeat' ((first|refine b8 ?_|refine bL ?_|refine cU ?_|refine cF ?_|apply ax<;>intro _|apply aV<;>intro _|apply dS<;>intro _|apply bY<;>intro _|refine aq ?_|refine aj ?_|refine ptr ?_|refine new (λb U=>?_))<;>conv=>whnf)
  all_goals exact one [2] (by simp[cM,k1,k2,k3,k4]) (by simp) b _ U
 by_cases k5:x.kind=15
 ·repeat' ((first|refine b8 ?_|refine bL ?_|refine cU ?_|refine cF ?_|apply ax<;>intro _|apply aV<;>intro _|apply dS<;>intro _|apply bY<;>intro _|refine aq ?_|refine aj ?_|refine ptr ?_|refine new (λb U=>?_))<;>conv=>whnf)
  all_goals exact one [2,1] (by simp[cM,k5]) (by simp) b _ U
 by_cases k6:x.kind=16
 ·repeat' ((first|refine b8 ?_|refine bL ?_|refine cU ?_|refine cF ?_|apply ax<;>intro _|apply aV<;>intro _|apply dS<;>intro _|apply bY<;>intro _|refine aq ?_|refine aj ?_|refine ptr ?_|refine new (λb U=>?_))<;>conv=>whnf)
  all_goals exact one [2,1,0] (by simp[cM,k6]) (by simp) b _ U
 by_cases k7:x.kind=18
 ·repeat' ((first|refine b8 ?_|refine bL ?_|refine cU ?_|refine cF ?_|apply ax<;>intro _|apply aV<;>intro _|apply dS<;>intro _|apply bY<;>intro _|refine aq ?_|refine aj ?_|refine ptr ?_|refine new (λb U=>?_))<;>conv=>whnf)
  all_goals exact one [2,0] (by simp[cM,k7]) (by simp) b _ U
 by_cases k8:x.kind=20
 ·have hk:=G0 k8;have e:=two x.a hk.1 hk.2;obtain⟨bb,off,p1,c1,hq,r1,r2⟩:=e;repeat' ((first|refine b8 ?_|refine bL ?_|refine cU ?_|refine cF ?_|apply ax<;>intro _|apply aV<;>intro _|apply dS<;>intro _|apply bY<;>intro _|refine aq ?_|refine aj ?_|refine ptr ?_|refine aO hq ?_|refine ld r1 ?_)<;>conv=>whnf)
  refine ob ⟨rfl,by omega,by show(_:Int)*((8:Nat):Int)<=_;omega,by omega⟩ ?_;conv=>whnf
  refine new (λb U=>?_);conv=>whnf
  have:=one (List.replicate (br u x.a).args.length 0) (by simp[cM,k8]) (by simpa using by omega) b 211 U;have sP:(List.replicate (br u x.a).args.length [Value.int .i64 0]).flatten=(List.replicate (br u x.a).args.length (0:Int)).map (.int .i64):=by
   rw[List.map_replicate,List.flatten_replicate_singleton]
  simp only[Int.toNat_natCast];rw[sP];simpa using this
 by_cases k9:x.kind=21
 ·have hk:=LJ k9;have hf:=ji u x.a x.b;have hc:rB u x=find u x.a x.b:=by simp[rB,k9]
  have cb:=EE _ u x h iJ ok (by omega);rw[hc]at cb;repeat' ((first|refine b8 ?_|refine bL ?_|refine cU ?_|refine cF ?_|apply ax<;>intro _|apply aV<;>intro _|apply dS<;>intro _|apply bY<;>intro _|refine aq ?_|refine aj ?_|refine ptr ?_|refine ay cb ?_)<;>conv=>whnf)
  ·exact⟨by simp[cM,k9];omega,rfl,Heap.le_refl h⟩
  ·have e:=two (find u x.a x.b) (by omega) hf.2;obtain⟨bb,off,p1,c1,hq,r1,r2⟩:=e;refine new (λb U=>?_);have hle:h.le (h.set b (.cells [Value.int .i64 2].toArray 211)):=Heap.aM (Heap.le_refl h) U;have Oj:rd (h.set b (.cells [Value.int .i64 2].toArray 211)) bb (off+(find u x.a x.b).toNat*8+2)=some (.slice p1 (br u (find u x.a x.b)).args.length c1):=by
    rw[mX (by rintro rfl;unfold rd at r1;rw[U]at r1;cases r1)];exact r1
   conv=>whnf
   repeat' ((first|apply ax<;>intro _|apply aV<;>intro _|apply dS<;>intro _|apply bY<;>intro _|refine aO hq ?_|refine ld Oj ?_|refine aq ?_|refine aj ?_|refine ptr ?_)<;>conv=>whnf)
   refine IY au rfl rfl rfl rfl rfl rfl rfl ⟨by show _*8<=_;omega,by omega⟩ ?_;refine cY (h0:=h) (xs:=[[.int .i64 2]]) (ys:=List.replicate (br u (find u x.a x.b)).args.length [.int .i64 0]) (B:=[b]) (fR (t:=211) (by simp) rfl (by simp[Heap.set,tH,ep,Ly])) (by simpa using U) hle rfl (by simp) (by simp) ?_ rfl (by simp;omega) (by simp;omega) ?_
   ·have:=dw (List.replicate (br u (find u x.a x.b)).args.length 0);rw[List.map_replicate]at this;rw[List.flatten_replicate_singleton];exact this
   intro v' h' B' g1 g2 g3 g4 g5;conv=>whnf
   refine⟨2::List.replicate (br u (find u x.a x.b)).args.length 0,by simp[cM,k9];omega,by simpa using by omega,g1,B',?_,g3⟩;simpa [dV,bO]using g2
 repeat' ((first|refine b8 ?_|refine bL ?_|refine cU ?_|refine cF ?_|apply ax<;>intro _|apply aV<;>intro _|apply dS<;>intro _|apply bY<;>intro _|refine aq ?_|refine aj ?_|refine ptr ?_)<;>conv=>whnf)
 exact⟨[],by simp only[cM,k1,k2,k3,k4,k5,k6,k7,k8,k9,if_false],by simp,Heap.le_refl h,[],⟨by simp,.inl ⟨rfl,rfl,rfl⟩⟩,by simp⟩
theorem gz.mono {h0 h h':Heap} {bm:Nat} {pre post:List Value} {M:bZ} {B:List Nat} (hM:gz h0 h bm pre post M B) (hl:h.le h'):gz h0 h' bm pre post M B:=by
 obtain⟨hle,⟨mc,t,U,ho⟩,nd,fr⟩:=hM;exact⟨Heap.le_trans hle hl,⟨mc,t,hl _ _ U,ho.aG (cC.of_le hl _)⟩,nd,fr⟩
theorem aX {h h':Heap} (hl:h.le h') {b i:Nat} {v:Value} (hr:rd h b i=some v):rd h' b i=some v:=by
 unfold rd at hr ⊢;cases hh:h b with
 | none=>rw[hh]at hr;cases hr
 | some o=>rw[hh]at hr;rw[hl b o hh];exact hr
theorem kq.mono {h0 h h':Heap} {bs bm bf off:Nat} {u:aU} {m:cB} {fs:List bU} {f:bU} {M:bZ} {B:List Nat} (hS:kq h0 h bs bm bf off u m fs f M B) (hl:h.le h'):kq h0 h' bs bm bf off u m fs f M B:=by
 obtain⟨hM,hf,⟨jg,c,hr⟩,⟨ms,us,ts,dZ,hu,hm⟩,eU⟩:=hS;exact⟨hM.mono hl,hf,⟨jg,c,aX hl hr⟩,⟨ms,us,ts,hl _ _ dZ,hu,hm⟩,eU⟩
theorem gz.in {h0 h:Heap} {bm:Nat} {pre post:List Value} {M:bZ} {B:List Nat} (hM:gz h0 h bm pre post M B):∀ b∈bm::B,∃ o,h b=some o:=by
 obtain⟨hle,⟨mc,t,U,ho⟩,nd,fr⟩:=hM;intro b bz;rcases List.mem_cons.1 bz with rfl|bz
 ·exact⟨_,U⟩
 ·exact ho.in b bz
theorem sub {a:Option Addr} {cap l size:Nat} {K:Option Addr->Prop} (hk:∀ oa,(cap≠l->oa=a.map λa=>a.add (l*size))->(cap=l->oa=a)->K oa):Sub a cap l size K:=by
 rw[Ax];unfold Iu;exact hk
theorem cn.rest {sz:Nat} {h:Heap} {p oa:Option Addr} {n cap l:Nat} {xs:List (List Value)} {B:List Nat} (ho:cn sz h (.slice p n cap) xs B) (hl:l<=n) (hn:n<=1000000) (h1:cap≠l->oa=p.map λa=>a.add (l*sz)) (h2:cap=l->oa=p) :
  mb sz h (.slice oa (n-l) (cap-l)) (xs.drop l):=by
 obtain⟨hx,⟨he,rfl,_⟩|⟨b,c,rest,t,he,hc,U,hlen,_⟩⟩:=ho
 ·simp only[Value.slice.injEq]at he;obtain⟨rfl,rfl,rfl⟩:=he;have:l=0:=by omega
  subst this;exact⟨by simp,by simp,oa,0,by simp,by simp,.inl (by simp)⟩
 ·simp only[Value.slice.injEq]at he;obtain⟨rfl,rfl,rfl⟩:=he;refine⟨by simp;omega,λx hm=>hx x (List.mem_of_mem_drop hm),oa,cap-l,by simp,by simp;omega,?_⟩;by_cases lq:cap=l
  ·left
   apply List.eq_nil_of_length_eq_zero
   simp;omega
  ·right
   refine⟨b,l*sz,by rw[h1 lq];simp[kZ],?_⟩;have FY:=bQ hx;have ht:(xs.take l).flatten.length=l*sz:=by
    rw[bQ (sz:=sz) (λy hy=>hx y (List.mem_of_mem_take hy)),List.length_take,Nat.min_eq_left hl]
   have hd:(xs.drop l).flatten.length=(xs.drop l).length*sz:=bQ (λy hy=>hx y (List.mem_of_mem_drop hy));have he:xs.flatten=(xs.take l).flatten++(xs.drop l).flatten:=by rw[<-List.flatten_append,List.take_append_drop]
   rw[bP U _ _ (by rw[he];simp only[List.length_append];omega),he];rw[List.append_assoc,List.drop_append_of_le_length (by omega),<-ht,List.drop_length,List.nil_append,<-hd,List.take_left]
theorem cn.first {sz:Nat} {h:Heap} {p:Option Addr} {n cap l:Nat} {xs:List (List Value)} {B:List Nat} (ho:cn sz h (.slice p n cap) xs B) (hl:l<=n):cn sz h (.slice p l cap) (xs.take l) B:=by
 obtain⟨hx,⟨he,rfl,rfl⟩|⟨b,c,rest,t,he,hc,U,hlen,rfl⟩⟩:=ho
 ·simp only[Value.slice.injEq]at he;obtain⟨rfl,rfl,rfl⟩:=he;have:l=0:=by omega
  subst this;exact⟨by simp,.inl ⟨rfl,by simp,rfl⟩⟩
 ·simp only[Value.slice.injEq]at he;obtain⟨rfl,rfl,rfl⟩:=he;have he:xs.flatten=(xs.take l).flatten++(xs.drop l).flatten:=by rw[<-List.flatten_append,List.take_append_drop]
  refine⟨λx hm=>hx x (List.mem_of_mem_take hm),.inr ⟨b,cap,(xs.drop l).flatten++rest,t,?_,by simp;omega,by rw[U,he];simp,?_,rfl⟩⟩
  ·rw[List.length_take,Nat.min_eq_left hl]
  ·rw[<-hlen,he];simp
theorem cn.nth {sz:Nat} {h:Heap} {p:Option Addr} {n cap:Nat} {xs:List (List Value)} {B:List Nat} (ho:cn sz h (.slice p n cap) xs B) {i:Nat} (hi:i < xs.length) :
  ∃ b,p=some ⟨b,0,none⟩/\eG h b (0+i*sz) sz=some xs[i]/\B=[b]:=by
 have hs:xs=xs.take i++xs[i]::xs.drop (i+1):=by simp
 obtain⟨b,c,pre,post,t,he,U,fV,xj,hB,_⟩:=cn.at (show cn sz h (.slice p n cap) (xs.take i++xs[i]::xs.drop (i+1)) B by rw[<-hs];exact ho);simp only[Value.slice.injEq]at he;refine⟨b,he.1,?_,hB⟩;have cO:(xs.take i).length=i:=by simp;omega
 rw[cO]at fV;rw[bP U _ _ (by simp only[List.length_append];omega)];rw[Nat.zero_add,<-fV,List.append_assoc,List.drop_left,<-xj,List.take_left]
def iU:List Int->List Vl->Bool
 | w::ws,v::vs=>!((decide (w=1)&&v.ref)||(decide (w=2) && !v.ref))&&iU ws vs
 | _,_=>true
def dB (u:aU) (x:dX) (cA:List Vl):Option (List Vl × List Vl):=match cM u x with
 | none=>none
 | some ws=>if cA.length < ws.length then none else if iU ws (cA.drop (cA.length-ws.length))then some (cA.drop (cA.length-ws.length),cA.take (cA.length-ws.length))else none
theorem Jv {ws:List Int} {vs:List Vl}:∀ {i:Nat} (hw:i < ws.length) (hv:i < vs.length),iU (ws.drop i) (vs.drop i)=(!((decide (ws[i]=1)&&vs[i].ref)||(decide (ws[i]=2) && !vs[i].ref))&&iU (ws.drop (i+1)) (vs.drop (i+1))):=by
 intro i hw hv;rw[List.drop_eq_getElem_cons hw,List.drop_eq_getElem_cons hv,iU]
theorem wA (l:List Vl) (k:Nat):(l.map bR).drop k=(l.drop k).map bR:=by rw[List.map_drop]
structure Oq (u:aU) (x:dX):Prop where
 ok:cj u.J
 args:∀ m∈u.methods,m.args.length<=2
 G0:x.kind=20->0<=x.a/\x.a < u.methods.length
 LJ:x.kind=21->0<=x.a/\x.a < u.J.length
theorem Jw (h0 h:Heap) (bs bm bf off:Nat) (u:aU) (m:cB) (fs:List bU) (f:bU) (M:bZ) (B:List Nat) (x:dX) (hS:kq h0 h bs bm bf off u m fs f M B) (hx:Oq u x) (abE:f.stack.length<=1000) :
  cH prog 170 [.pointer (some ⟨bs,0,none⟩),.agg #[.int .i64 x.kind,.int .i64 x.a,.int .i64 x.b]] h λo h'=>match o with
   | .ret v=>∃ aS rest,dB u x f.stack=some (aS,rest)/\∃ B' Bt,kq h0 h' bs bm bf off u m fs {f with stack:=rest} {M with ag:=fs++[{f with stack:=rest}]} B'/\Ev h h' (bm::B) (bm::B') /\
     cq h' v aS Bt/\∀ b∈Bt,b ∉ bm::B'/\b≠bs/\h0 b=none
   | .lE c=>dB u x f.stack=none/\c=jE 0/\Pn h0 bm h':=by
 have Yt:=hS;obtain⟨hM,hf,jg,⟨ms,us,ts,dZ,hu,hm⟩,eU⟩:=hS;have hle:=hM.le;have iJ:=hu.le hle;obtain⟨p,cc,q,d,rfl,hcs,fM,jN,hl2⟩:=hu.form;obtain⟨p1,c1,p2,c2,p3,c3,p4,c4,rfl,h1,h2,h3,h4,h5,h6,h7,h8,b1,b2,b3,b4⟩:=hm.form;have ru:eG h bs 9 2=some [.slice p u.J.length cc,.slice q u.methods.length d]:=bP dZ 2 9 (by simp[Yp]);refine outs au func170 Ua Ub rfl ?_;conv=>whnf
 refine dK ru ?_;conv=>whnf
 refine qZ (P0 _ u x h iJ hx.ok hx.G0 hx.LJ hx.args) ?_ ?_;rotate_left
 ·rintro c h' ⟨e1,e2,e3⟩;exact⟨by simp[dB,e1],e2,hM.Jr e3⟩
 rintro v ED ⟨ws,me,abF,l1,Bw,ow,nw⟩;refine⟨l1,?_⟩;obtain⟨pw,cw,rfl,_⟩:=ow.form;have BV:=dY bO ws;conv=>whnf
 obtain⟨t,qq,r,v1,ps,cs,B2,jS,hq,o2,gA,r1,r2,_⟩:=(Yt.mono l1).cA;have hlen:=dY bR f.stack;refine ld r1 ?_;conv=>whnf
 refine ld r2 ?_;conv=>whnf
 refine aj ?_;conv=>whnf
 apply ax<;>intro g1;all_goals conv=>whnf
 ·exact⟨by simp only[dB,me];rw[if_pos (by omega)],rfl,hM.Jr l1⟩
 refine ld r1 ?_;conv=>whnf
 refine ld r2 ?_;conv=>whnf
 refine aq ?_;conv=>whnf
 refine sub (λoa k1 k2=>?_);conv=>whnf
 have VW:(((f.stack.map bR).length:Int)-((ws.map bO).length:Int)).toNat=f.stack.length-ws.length:=by omega
 have VX:=cn.rest (oa:=oa) (l:=(((f.stack.map bR).length:Int)-((ws.map bO).length:Int)).toNat) o2 (by omega) (by omega) k1 k2;have hrv:nT ED (.slice oa ((f.stack.map bR).length-(((f.stack.map bR).length:Int)-((ws.map bO).length:Int)).toNat) (cs-(((f.stack.map bR).length:Int)-((ws.map bO).length:Int)).toNat)) (f.stack.drop (f.stack.length-ws.length)):=by
  rw[VW]at VX ⊢;rw[wA]at VX;exact VX
 refine aD (ua _ _ ED hrv) ?_;rintro v iN ⟨l2,Bt,ot,nt⟩;obtain⟨pt,ct,rfl,_⟩:=ot.form;conv=>whnf
 have kS:((f.stack.drop (f.stack.length-ws.length)).map bR).length=ws.length:=by simp;omega
 have F6:=Heap.le_trans l1 l2;have ow2:dV iN (.slice pw (ws.map bO).length cw) ws Bw:=ow.aG (cC.of_le l2 _);have Ot:iU ws (f.stack.drop (f.stack.length-ws.length))=false->dB u x f.stack=none:=by
  intro hx;simp only[dB,me];rw[if_neg (by omega)];simp[hx]
 refine fm [0,5,6,7,43,44,45] [] (λi:Nat=>i<=ws.length/\iU ws (f.stack.drop (f.stack.length-ws.length))=iU (ws.drop i) ((f.stack.drop (f.stack.length-ws.length)).drop i)) (λi=>ws.length-i)
  (λi=>([.v (.pointer (some ⟨bs,0,none⟩)),.v (.slice pw (ws.map bO).length cw),.v (.int .i64 (((f.stack.map bR).length:Int)-((ws.map bO).length:Int))),.v (.slice pt ((f.stack.drop (f.stack.length-ws.length)).map bR).length ct),.v (.slice pt ((f.stack.drop (f.stack.length-ws.length)).map bR).length ct),.v (.int .i64 ((f.stack.drop (f.stack.length-ws.length)).map bR).length),.v (.int .i64 i)],[],iN)) 0 ⟨by omega,by simp⟩ rfl ?_
 rintro i ⟨hi,hg⟩;conv=>whnf
 apply ax<;>intro g2;all_goals conv=>whnf
 ·have hiw:i < ws.length:=by omega
  have hiv:i < (f.stack.drop (f.stack.length-ws.length)).length:=by simp;omega
  have e:=ot.nth (i:=i) (by simpa using hiv);obtain⟨bb,hqt,e1,_⟩:=e;have e':=ow2.nth (i:=i) (by simpa using hiw);obtain⟨bw,hqw,e2,_⟩:=e';rw[List.getElem_map]at e1 e2;have fW:=Jv hiw hiv;rw[<-hg]at fW;refine aq ?_;conv=>whnf
  refine aO hqt ?_;conv=>whnf
  refine dK e1 ?_;conv=>whnf
  refine aq ?_;conv=>whnf
  refine aO hqw ?_;conv=>whnf
  have e3:rd iN bw (0+i*1)=some (.int .i64 ws[i]):=by simpa using aK e2 (i:=0) rfl
  refine ld e3 ?_;conv=>whnf
  have again:∀ {K:Value->Prop},K (.int .i64 ws[i])->Ld iN bw (0+i*1) K:=λhk=>ld e3 hk;apply ax<;>intro q1;all_goals conv=>whnf
  ·apply dS<;>intro q3;all_goals conv=>whnf
   ·exact⟨Ot (by rw[fW,q3];simp[q1]),rfl,hM.Jr F6⟩
   ·refine aq ?_;conv=>whnf
    refine aO hqw ?_;conv=>whnf
    refine ld e3 ?_;conv=>whnf
    refine bL ?_;conv=>whnf
    refine aj ?_;conv=>whnf
    refine dm (i+1) ⟨by omega,?_⟩ (by omega) rfl;rw[fW,q3];simp[q1]
  ·refine aq ?_;conv=>whnf
   refine aO hqw ?_;conv=>whnf
   refine ld e3 ?_;conv=>whnf
   apply ax<;>intro q2;all_goals conv=>whnf
   ·apply bY<;>intro q3;all_goals conv=>whnf
    ·exact⟨Ot (by rw[fW,q3];simp[q2]),rfl,hM.Jr F6⟩
    ·refine aj ?_;conv=>whnf
     refine dm (i+1) ⟨by omega,?_⟩ (by omega) rfl;rw[fW,q3];simp[q2]
   ·refine aj ?_;conv=>whnf
    refine dm (i+1) ⟨by omega,?_⟩ (by omega) rfl;rw[fW];simp[q1,q2]
 ·have nV:i=ws.length:=by omega
  have ez:iU ws (f.stack.drop (f.stack.length-ws.length))=true:=by
   rw[hg,nV,List.drop_length];rfl
  have FM:dB u x f.stack=some (f.stack.drop (f.stack.length-ws.length),f.stack.take (f.stack.length-ws.length)):=by
   simp only[dB,me];rw[if_neg (by omega),if_pos ez]
  have kH:=Yt.mono F6;obtain⟨t',qq',r',zY,Oo,jt,gO,aak,Jj,o2',abG,Oj,yc,eF⟩:=kH.cA;have Of:(f.stack.map bR).length<=jt:=by
   obtain⟨_,_,he,hc⟩:=o2'.form;simp only[Value.slice.injEq]at he;omega
  refine ld Oj ?_;conv=>whnf
  refine ld Oj ?_;conv=>whnf
  refine ld yc ?_;conv=>whnf
  refine aq ?_;conv=>whnf
  have VY:=o2'.first (l:=f.stack.length-ws.length) (by simp);rw[<-List.map_take]at VY;obtain⟨e1,e2,e3,B',s1,s2⟩:=eF iN _ gO (f.stack.take (f.stack.length-ws.length)) f.pc (λ_ _ _=>rfl) VY (λb U=>.inl U);have jx:∀ b∈Bt,h b=none:=by
   intro b U;cases hh:h b with
   | none=>rfl
   | some o=>have:=nt b U;rw[l1 b o hh]at this;cases this
  have x6:=ot.in;refine st aak (by simp;omega) ?_;conv=>whnf
  rw[EG (i:=3) (by rw[Jj]) (by simp)];have sH:∀ b∈Bt,b≠bf:=by
   rintro b U rfl;have:=jx b U;have h9:rd h b (off+3)≠none:=by
    have:=Yt.cA;obtain⟨_,_,_,_,_,_,_,g1,_⟩:=this;intro hx;rw[jx b U]at g1;cases g1
   exact h9 (by unfold rd;rw[this])
  rw[VW];refine⟨_,_,FM,B',Bt,s1,?_,?_,?_⟩
  ·exact Ev.trans (Ev.of_le F6 (bm::B) (λb U=>.inl U)) s2
  ·refine ot.aG λb U o ho=>?_;simp only[Heap.set,sH b U,if_false];exact ho
  ·intro b U;refine⟨λhx=>?_,?_,?_⟩
   ·rcases s2.new b hx with hy|hy
    ·obtain⟨o,ho⟩:=hM.in b hy;rw[jx b U]at ho;cases ho
    ·obtain⟨o,ho⟩:=x6 b U;rw[hy]at ho;cases ho
   ·rintro rfl;rw[jx b U]at dZ;cases dZ
   ·cases hh:h0 b with
    | none=>rfl
    | some o=>have:=jx b U;rw[hle b o hh]at this;cases this
theorem gz.whole {h0 h:Heap} {bm:Nat} {pre post:List Value} {M:bZ} {B:List Nat} (hM:gz h0 h bm pre post M B) :
  ∃ t vo vf vs B1 B2 B3,h bm=some (.cells (pre++aB vo vf vs M++post).toArray t (0,0))/\eE lu 2 h vo M.objs B1/\eE oY 4 h vf M.ag B2/\dV h vs M.said B3/\B=B1++B2++B3 /\
   ∀ h' yd CY oW M' jf gO EH,h' bm=some (.cells (pre++aB yd CY oW M'++post).toArray t (0,0))->eE lu 2 h' yd M'.objs jf->eE oY 4 h' CY M'.ag gO->dV h' oW M'.said EH ->
    Nd (bm::(jf++gO++EH))->Ev h h' (bm::B) (bm::(jf++gO++EH))->gz h0 h' bm pre post M' (jf++gO++EH):=by
 obtain⟨hle,⟨mc,t,U,vo,vf,vs,B1,B2,B3,rfl,h1,h2,h3,rfl⟩,nd,fr⟩:=hM;refine⟨t,vo,vf,vs,B1,B2,B3,U,h1,h2,h3,rfl,?_⟩;intro h' yd CY oW M' jf gO EH k1 k2 k3 k4 k5 k6;exact⟨k6.le hle fr,⟨_,t,k1,yd,CY,oW,jf,gO,EH,rfl,k2,k3,k4,rfl⟩,k5,k6.fresh hle fr⟩
theorem gz.obj {h0 h:Heap} {bm:Nat} {pre post:List Value} {M:bZ} {B:List Nat} {l1 l2:List Ob} {o:Ob} (hM:gz h0 h bm pre post M B) (ho:M.objs=l1++o::l2) :
  ∃ bo c tm vf vs q r t v Bi,h bm=some (.cells (pre++aB (.slice (some ⟨bo,0,none⟩) M.objs.length c) vf vs M++post).toArray tm (0,0)) /\
   h bo=some (.cells (q++[.int .i64 o.cls,v]++r).toArray t (0,0))/\q.length=l1.length*2/\cq h v o.bE Bi/\(∀ b∈Bi,b∈B/\b≠bo)/\bo∈B/\bm ∉ B /\
   ∀ h' fA,cq h' v fA Bi->(∀ b,b ∉ Bi->h b≠none->h' b=h b)->∃ B',gz h0 h' bm pre post {M with objs:=l1++{o with bE:=fA }::l2} B'/\(∀ b,b∈bm::B'↔b∈bm::B):=by
 obtain⟨t,vo,vf,vs,B1,B2,B3,U,h1,h2,h3,rfl,eF⟩:=hM.whole;have nd:=hM.nd;have fI:=hM.in;rw[ho]at h1;obtain⟨bo,c,x,q,r,t',Bo,Bi,rfl,_,mS,hq,xj,⟨v,rfl,ov⟩,iK,aal⟩:=h1.at jD;have hlen:M.objs.length=l1.length+l2.length+1:=by rw[ho];simp;omega
 have AU:∀ b∈Bi,b∈B1/\b≠bo/\b ∉ Bo/\b ∉ B2/\b ∉ B3/\b≠bm:=by
  intro b bz;have hp:=List.count_pos_iff.2 bz;have hc:=iK b;have hn:=nd b;simp only[List.count_append,List.count_cons]at hc hn;refine⟨List.count_pos_iff.1 (by omega),?_,λhx=>?_,λhx=>?_,λhx=>?_,?_⟩
  ·rintro rfl;simp at hc;omega
  ·have:=List.count_pos_iff.2 hx;omega
  ·have:=List.count_pos_iff.2 hx;omega
  ·have:=List.count_pos_iff.2 hx;omega
  ·rintro rfl;simp at hn;omega
 have VZ:bo∈B1:=(ij iK bo).2 (by simp);have iq:bm ∉ B1++B2++B3:=by
  intro hx;have:=List.count_pos_iff.2 hx;have hn:=nd bm;simp only[List.count_cons,beq_self_eq_true,if_true]at hn;omega
 refine⟨bo,c,t,vf,vs,q,r,t',v,Bi,by rw[hlen];exact U,mS,hq,ov,λb bz=>⟨by simp[(AU b bz).1],(AU b bz).2.1⟩,by simp[VZ],iq,?_⟩;intro h' fA k1 k2;have qA:∀ b,b∈bm::(B1++B2++B3)->b ∉ Bi->h' b=h b:=by
  intro b bz hn;obtain⟨o,ho⟩:=fI b bz;exact k2 b hn (by rw[ho];simp)
 obtain⟨jf,o1,o2⟩:=aal h' [.int .i64 o.cls,v] {o with bE:=fA } Bi (by rw[qA bo (by simp[VZ]) (λhx=>(AU _ hx).2.1 rfl)];exact mS) rfl ⟨v,rfl,k1⟩ (λb bz o' EI=>by
  rw[qA b (by have:=(ij iK b).2 (by simp[bz]);simp[this]) (λhx=>(AU _ hx).2.2.1 bz)];exact EI)
 have hp:∀ a,(bm::(jf++B2++B3)).count a=(bm::(B1++B2++B3)).count a:=by
  intro a;have:=iK a;have:=o2 a;simp only[List.count_append,List.count_cons]at *;omega
 have dy:=ij hp;refine⟨jf++B2++B3,eF h' _ vf vs {M with objs:=l1++{o with bE:=fA }::l2} jf B2 B3 ?_ o1 ?_ ?_ (nd.perm hp) ?_,dy⟩
 ·rw[qA bm (by simp) (λhx=>(AU _ hx).2.2.2.2.2 rfl)];exact U
 ·exact h2.aG qz λb bz o' EI=>by rw[qA b (by simp[bz]) (λhx=>(AU _ hx).2.2.2.1 bz)];exact EI
 ·exact h3.aG λb bz o' EI=>by rw[qA b (by simp[bz]) (λhx=>(AU _ hx).2.2.2.2.1 bz)];exact EI
 ·refine⟨λb bz hn=>k2 b (λhx=>hn (by have:=(AU b hx).1;simp[this])) bz,λb bz=>.inl ((dy b).1 bz)⟩
theorem kq.obj {h0 h:Heap} {bs bm bf off:Nat} {u:aU} {m:cB} {fs:List bU} {f:bU} {M:bZ} {B:List Nat} {l1 l2:List Ob} {o:Ob} (hS:kq h0 h bs bm bf off u m fs f M B) (ho:M.objs=l1++o::l2) :
  ∃ bo c v Bi,rd h bm 0=some (.slice (some ⟨bo,0,none⟩) M.objs.length c)/\rd h bo (l1.length*2)=some (.int .i64 o.cls)/\rd h bo (l1.length*2+1)=some v/\cq h v o.bE Bi /\
   ∀ h' fA,cq h' v fA Bi->(∀ b,b ∉ Bi->h b≠none->h' b=h b)->∃ B',kq h0 h' bs bm bf off u m fs f {M with objs:=l1++{o with bE:=fA }::l2} B'/\Ev h h' (bm::B) (bm::B'):=by
 obtain⟨hM,hf,⟨jg,c0,hr⟩,⟨ms,us,ts,dZ,hu,hm⟩,eU⟩:=hS;obtain⟨bo,c,tm,vf,vs,q,r,t,v,Bi,U,mS,hq,ov,AU,abH,iq,eF⟩:=hM.obj ho;refine⟨bo,c,v,Bi,bG U (i:=0) (by simp) rfl,bG mS (i:=0) (by omega) rfl,bG mS (i:=1) (by omega) rfl,ov,?_⟩;intro h' fA k1 k2;obtain⟨B',Js,dy⟩:=eF h' fA k1 k2;have n1:bm ∉ Bi:=λhx=>iq (AU _ hx).1;have n2:bs ∉ Bi:=λhx=>eU (by simp[(AU _ hx).1]);have e1:h' bm=h bm:=k2 bm n1 (by rw[U];simp);have e2:h' bs=h bs:=k2 bs n2 (by rw[dZ];simp);refine⟨B',⟨Js,hf,⟨jg,c0,by unfold rd at hr ⊢;rw[e1];exact hr⟩,⟨ms,us,ts,by rw[e2];exact dZ,hu,hm⟩,λhx=>eU ((dy bs).1 hx)⟩,⟨λb bz hn=>k2 b (λhx=>hn (by simp[(AU b hx).1])) bz,λb bz=>.inl ((dy b).1 bz)⟩⟩
theorem ud {α:Type} (l:List α) {i:Nat} (hi:i < l.length):l=l.take i++l[i]::l.drop (i+1):=by simp
theorem G2 (p:Option Addr) (n c:Nat) (a b:Int) (h:Heap) (ha:a < 0):Pure prog 65 [.slice p n c,.int .i64 a,.int .i64 b] h (.bool false):=by
 refine gN au func65 ZQ SL rfl ?_;conv=>whnf
 refine fm [0,2,7] [] (λx:Int=>x < 0) (λx=>0)
  (λx=>([.v (.slice p n c),.v (.int .i64 b),.v (.int .i64 x)],[],h)) a ha rfl ?_
 rintro x hx;conv=>whnf
 refine bL ?_;conv=>whnf
 exact⟨rfl,rfl⟩
theorem wB (p:Option Addr) (n c:Nat) (cs:List dR) (a b:Int) (h:Heap) (hr:fo h (.slice p n c) cs) (ok:cj cs) (hl:a < cs.length) :
  Pure prog 65 [.slice p n c,.int .i64 a,.int .i64 b] h (.bool (up cs a b)):=by
 by_cases h0:a < 0
 ·rw[qp h0];exact G2 p n c a b h h0
 ·exact rj p n c cs a b h hr ok (by omega) hl
def aam:Ob:=⟨0,[]⟩
def aF (l:List Ob) (n:Int):Ob:=l.getD (n-1).toNat aam
theorem ue {l:List Ob} {n:Int} {i:Nat} (hi:i < l.length) (hn:n=i+1):aF l n=l[i]:=by
 have:(n-1).toNat=i:=by omega
 simp[aF,this,hi]
theorem kq.jF {h0 h:Heap} {bs bm bf off:Nat} {u:aU} {m:cB} {fs:List bU} {f:bU} {M:bZ} {B:List Nat} (hS:kq h0 h bs bm bf off u m fs f M B) {n:Int} (h1:0 < n) (h2:n<=M.objs.length) :
  ∃ bo c v Bi,rd h bm 0=some (.slice (some ⟨bo,0,none⟩) M.objs.length c)/\rd h bo (0+(n-1).toNat*2)=some (.int .i64 (aF M.objs n).cls)/\rd h bo (0+(n-1).toNat*2+1)=some v/\cq h v (aF M.objs n).bE Bi /\
   ∀ h' fA,cq h' v fA Bi->(∀ b,b ∉ Bi->h b≠none->h' b=h b)->∃ B',kq h0 h' bs bm bf off u m fs f {M with objs:=M.objs.set (n-1).toNat {aF M.objs n with bE:=fA } } B'/\Ev h h' (bm::B) (bm::B'):=by
 have hi:(n-1).toNat < M.objs.length:=by omega
 obtain⟨bo,c,v,Bi,r1,r2,r3,ov,eF⟩:=hS.obj (ud M.objs hi);have cO:(M.objs.take (n-1).toNat).length=(n-1).toNat:=by simp;omega
 have sQ:aF M.objs n=M.objs[(n-1).toNat]:=ue hi (by omega);rw[cO]at r2 r3;rw[sQ];refine⟨bo,c,v,Bi,r1,by simpa using r2,by simpa using r3,ov,λh' fA k1 k2=>?_⟩;have jO:M.objs.set (n-1).toNat {M.objs[(n-1).toNat]with bE:=fA }=M.objs.take (n-1).toNat++{M.objs[(n-1).toNat]with bE:=fA }::M.objs.drop ((n-1).toNat+1):=by
  rw[List.set_eq_take_append_cons_drop,if_pos hi]
 rw[jO];exact eF h' fA k1 k2
theorem kq.mp {h0 h:Heap} {bs bm bf off:Nat} {u:aU} {m:cB} {fs:List bU} {f:bU} {M:bZ} {B:List Nat} (hS:kq h0 h bs bm bf off u m fs f M B) :
  rd h bs 0=some (.pointer (some ⟨bf,off,none⟩))/\rd h bs 11=some (.pointer (some ⟨bm,0,none⟩))/\(∃ c,rd h bm 1=some (.slice (some ⟨bf,0,none⟩) (fs.length+1) c)) /\
   ∃ p c q d,dL h0 [.slice p u.J.length c,.slice q u.methods.length d] u/\rd h bs 9=some (.slice p u.J.length c)/\rd h bs 10=some (.slice q u.methods.length d)/\eG h bs 9 2=some [.slice p u.J.length c,.slice q u.methods.length d] /\
    ∃ p2 c2,rd h bs 6=some (.slice p2 m.code.length c2)/\Row 3 CH h0 (.slice p2 m.code.length c2) m.code:=by
 obtain⟨hM,hf,⟨jg,c0,hr⟩,⟨ms,us,ts,dZ,hu,hm⟩,eU⟩:=hS;obtain⟨p,cc,q,d,rfl,hcs,fM,jN,hl2⟩:=hu.form;obtain⟨p1,c1,p2,c2,p3,c3,p4,c4,rfl,h1,h2,h3,h4,h5,h6,h7,h8,b1,b2,b3,b4⟩:=hm.form;exact⟨ec dZ rfl,ec dZ rfl,⟨c0,hr⟩,p,cc,q,d,hu,ec dZ rfl,ec dZ rfl,bP dZ 2 9 (by simp[Yp]),p2,c2,ec dZ rfl,h6⟩
theorem AV (h0 h:Heap) (bs bm bf off:Nat) (u:aU) (m:cB) (fs:List bU) (f:bU) (M:bZ) (B:List Nat) (x:Vl) (g:Nat) (tQ:List Value) (so:Int->Bool) (hS:kq h0 h bs bm bf off u m fs f M B)
  (hg:(g=216/\∃ c1 c2,tQ=[c1,c2])\/(g=219/\∃ c1,tQ=[c1])\/(g=205/\tQ=[]))
  (hx:0<=x.n/\x.n<=M.objs.length) (hl:M.objs.length<=1000) (hso:0 < x.n->Pure prog g (.int .i64 (aF M.objs x.n).cls::tQ) h (.bool (so (aF M.objs x.n).cls))) :
  cH prog 204 [.pointer (some ⟨bs,0,none⟩),.agg #[.bool x.ref,.int .i64 x.n],.func (.func g) #[] ⟨tQ⟩] h λo h'=>h'=h/\match o with
   | .ret v=>0 < x.n/\so (aF M.objs x.n).cls=true/\∃ bo c,rd h bm 0=some (.slice (some ⟨bo,0,none⟩) M.objs.length c)/\v=.pointer (some ⟨bo,0+(x.n-1).toNat*2,none⟩)
   | .lE c=>(0 < x.n/\so (aF M.objs x.n).cls=false/\c=jE 0)\/(x.n=0/\c=jE 2):=by
 obtain⟨r1,r2,_,_⟩:=hS.mp;by_cases rS:0 < x.n
 ·have sQ:=hS.jF rS hx.2;obtain⟨bo,c,v,Bi,q1,q2,q3,_,_⟩:=sQ;have hc:=hso rS;rcases hg with ⟨rfl,d1,d2,rfl⟩|⟨rfl,d1,rfl⟩|⟨rfl,rfl⟩;all_goals
   refine outs au func204 PR Oc rfl ?_;conv=>whnf
   refine fX rS ?_;conv=>whnf
   repeat' ((first|refine ld r2 ?_|refine ld q1 ?_|refine ld q2 ?_|refine aq ?_|refine aj ?_|refine ptr ?_)<;>conv=>whnf)
   refine aT hc ?_;conv=>whnf
   apply bY<;>intro k;all_goals conv=>whnf
   ·exact⟨rfl,.inl ⟨rS,k,rfl⟩⟩
   ·refine bL ?_;conv=>whnf
    repeat' ((first|refine ld r2 ?_|refine ld q1 ?_|refine ld q2 ?_|refine aq ?_|refine aj ?_|refine ptr ?_)<;>conv=>whnf)
    exact⟨rfl,rS,k,bo,c,q1,rfl⟩
 ·rcases hg with ⟨rfl,d1,d2,rfl⟩|⟨rfl,d1,rfl⟩|⟨rfl,rfl⟩;all_goals
   refine outs au func204 PR Oc rfl ?_;conv=>whnf
   refine cy rS ?_;conv=>whnf
   refine b8 ?_;conv=>whnf
   exact⟨rfl,.inr ⟨by omega,rfl⟩⟩
theorem EJ (h:Heap) (b1 b2 bs:Nat) (p:Option Addr) (n cc:Nat) (cs:List dR) (c k:Int) (r1:rd h b1 0=some (.pointer (some ⟨bs,0,none⟩))) (r2:rd h b2 0=some (.int .i64 k)) (r3:rd h bs 9=some (.slice p n cc))
  (hr:fo h (.slice p n cc) cs) (ok:cj cs) (hc:c < cs.length) :
  Pure prog 216 [.int .i64 c,.pointer (some ⟨b1,0,none⟩),.pointer (some ⟨b2,0,none⟩)] h (.bool (up cs c k)):=by
 refine gN au func216 Vk Vm rfl ?_;conv=>whnf
 repeat' ((first|refine ld r1 ?_|refine ld r2 ?_|refine ld r3 ?_|refine aq ?_|refine aj ?_|refine ptr ?_)<;>conv=>whnf)
 refine aT (wB _ _ _ _ _ _ _ hr ok hc) ?_;conv=>whnf
 exact⟨rfl,rfl⟩
theorem rD (h0 h:Heap) (bs bm bf off:Nat) (u:aU) (m:cB) (fs:List bU) (f:bU) (M:bZ) (B:List Nat) (x:Vl) (k:Int) (hS:kq h0 h bs bm bf off u m fs f M B) (ok:cj u.J)
  (hx:0<=x.n/\x.n<=M.objs.length) (hl:M.objs.length<=1000) (hc:0 < x.n->(aF M.objs x.n).cls < u.J.length) :
  cH prog 197 [.pointer (some ⟨bs,0,none⟩),.agg #[.bool x.ref,.int .i64 x.n],.int .i64 k] h λo h'=>h.le h'/\match o with
   | .ret v=>0 < x.n/\up u.J (aF M.objs x.n).cls k=true/\∃ bo c,rd h' bm 0=some (.slice (some ⟨bo,0,none⟩) M.objs.length c)/\v=.pointer (some ⟨bo,0+(x.n-1).toNat*2,none⟩)
   | .lE c=>(0 < x.n/\up u.J (aF M.objs x.n).cls k=false/\c=jE 0)\/(x.n=0/\c=jE 2):=by
 refine outs au func197 UM UN rfl ?_;conv=>whnf
 refine new (λb1 gI=>?_);conv=>whnf
 refine new (λb2 eX=>?_);have l1:=Heap.aM (Heap.le_refl h) gI (o:=.cells [Value.pointer (some ⟨bs,0,none⟩)].toArray 158);have l2:=Heap.aM (Heap.le_refl _) eX (o:=.cells [Value.int .i64 k].toArray 3);have ne:b1≠b2:=by rintro rfl;simp[Heap.set]at eX
 have F6:=Heap.le_trans l1 l2;have q1:rd ((h.set b1 (.cells [Value.pointer (some ⟨bs,0,none⟩)].toArray 158)).set b2 (.cells [Value.int .i64 k].toArray 3)) b1 0=some (.pointer (some ⟨bs,0,none⟩)):=by
  rw[mX ne,lU];rfl
 have q2:rd ((h.set b1 (.cells [Value.pointer (some ⟨bs,0,none⟩)].toArray 158)).set b2 (.cells [Value.int .i64 k].toArray 3)) b2 0=some (.int .i64 k):=by
  rw[lU];rfl
 have kH:=hS.mono F6;obtain⟨_,_,_,p,cc,q,d,hu,r9,_,_,_⟩:=kH.mp;have hcs:=(hu.le kH.ma.le).form;obtain⟨p',c',q',d',he,hcs,_⟩:=hcs;simp only[List.cons.injEq,Value.slice.injEq,true_and,and_true]at he;obtain⟨⟨rfl,rfl⟩,_⟩:=he;conv=>whnf
 generalize (h.set b1 (.cells [Value.pointer (some ⟨bs,0,none⟩)].toArray 158)).set b2 (.cells [Value.int .i64 k].toArray 3)=h2 at *;refine ld q1 ?_;conv=>whnf
 refine cW (AV h0 h2 bs bm bf off u m fs f M B x _ _ (λc=>up u.J c k) kH (.inl ⟨rfl,_,_,rfl⟩) hx hl (λhp=>EJ h2 b1 b2 bs _ _ _ _ _ _ q1 q2 r9 hcs ok (hc hp))) ?_ ?_
 ·rintro v h' ⟨rfl,e1,e2,e3⟩;conv=>whnf
  exact⟨F6,e1,e2,e3⟩
 ·rintro c h' ⟨rfl,e1⟩;exact⟨F6,e1⟩
theorem EK (h:Heap) (b1:Nat) (c k:Int) (r1:rd h b1 0=some (.int .i64 k)) :
  Pure prog 219 [.int .i64 c,.pointer (some ⟨b1,0,none⟩)] h (.bool (decide (c=if k=0 then -1 else -2))):=by
 refine gN au func219 Vr Vs rfl ?_;conv=>whnf
 refine ld r1 ?_;conv=>whnf
 refine ay (oX _ _) ?_;conv=>whnf
 exact⟨rfl,rfl⟩
theorem CZ (h:Heap) (c:Int):Pure prog 205 [.int .i64 c] h (.bool (decide (c < 0))):=by
 refine gN au func205 U1 U2 rfl ?_;conv=>whnf
 exact⟨rfl,rfl⟩
def o7 (k:Int):Int:=if k=0 then -1 else -2
theorem z5 (h0 h:Heap) (bs bm bf off:Nat) (u:aU) (m:cB) (fs:List bU) (f:bU) (M:bZ) (B:List Nat) (x:Vl) (k n:Int) (hS:kq h0 h bs bm bf off u m fs f M B)
  (hx:0<=x.n/\x.n<=M.objs.length) (hl:M.objs.length<=1000) :
  cH prog 206 [.pointer (some ⟨bs,0,none⟩),.agg #[.bool x.ref,.int .i64 x.n],.int .i64 k,.int .i64 n] h λo h'=>h.le h'/\match o with
   | .ret v=>0 < x.n/\(aF M.objs x.n).cls=o7 k/\0<=n/\n < (aF M.objs x.n).bE.length/\∃ bo c bv cv nv,rd h' bm 0=some (.slice (some ⟨bo,0,none⟩) M.objs.length c)/\rd h' bo (0+(x.n-1).toNat*2+1)=some (.slice (some ⟨bv,0,none⟩) nv cv)/\v=.pointer (some ⟨bv,0+n.toNat*2,none⟩)
   | .lE c=>(0 < x.n/\(aF M.objs x.n).cls≠o7 k/\c=jE 0)\/(x.n=0/\c=jE 2)\/(0 < x.n/\(aF M.objs x.n).cls=o7 k/\¬(0<=n/\n < (aF M.objs x.n).bE.length)/\c=jE 3):=by
 refine outs au func206 U3 U4 rfl ?_;conv=>whnf
 refine new (λb1 gI=>?_);have l1:=Heap.aM (Heap.le_refl h) gI (o:=.cells [Value.int .i64 k].toArray 3);have q1:rd (h.set b1 (.cells [Value.int .i64 k].toArray 3)) b1 0=some (.int .i64 k):=by
  rw[lU];rfl
 have kH:=hS.mono l1;conv=>whnf
 generalize h.set b1 (.cells [Value.int .i64 k].toArray 3)=h2 at *;refine cW (AV h0 h2 bs bm bf off u m fs f M B x _ _ (λc=>decide (c=o7 k)) kH (.inr (.inl ⟨rfl,_,rfl⟩)) hx hl (λhp=>EK h2 b1 _ k q1)) ?_ ?_
 ·rintro v h' ⟨rfl,e1,e2,bo,c,e3,rfl⟩;have e2:=of_decide_eq_true e2;have sQ:=kH.jF e1 hx.2;obtain⟨bo',c',v,Bi,s1,s2,s3,ov,_⟩:=sQ;rw[e3]at s1;simp only[Option.some.injEq,Value.slice.injEq,Addr.mk.injEq,and_true,true_and]at s1;obtain⟨rfl,rfl⟩:=s1;have ov0:=ov;obtain⟨pv,cv,rfl,Ou⟩:=ov.form;have hlen:=dY bR (aF M.objs x.n).bE;conv=>whnf
  apply ax<;>intro g1;all_goals conv=>whnf
  ·exact⟨l1,.inr (.inr ⟨e1,e2,by omega,rfl⟩)⟩
  refine ld s3 ?_;conv=>whnf
  apply ax<;>intro g2;all_goals conv=>whnf
  ·exact⟨l1,.inr (.inr ⟨e1,e2,by omega,rfl⟩)⟩
  have hi:n.toNat < ((aF M.objs x.n).bE.map bR).length:=by omega
  have e:=ov0.nth hi;obtain⟨bv,RT,_,_⟩:=e;refine ld s3 ?_;conv=>whnf
  refine aq ?_;conv=>whnf
  refine aO RT ?_;conv=>whnf
  subst RT;exact⟨l1,e1,e2,by omega,by omega,bo,c,bv,cv,_,e3,s3,rfl⟩
 ·rintro c h' ⟨rfl,e1⟩;refine⟨l1,?_⟩;rcases e1 with ⟨e1,e2,e3⟩|e1
  ·exact .inl ⟨e1,of_decide_eq_false e2,e3⟩
  ·exact .inr (.inl e1)
theorem MK (n:Int) (h:Heap) (hn:n=0\/n=1\/n=2\/n=3\/n=4\/n=5\/n=6):Pure prog 225 [.int .u64 1,.int .u64 n] h (.tuple #[.int .u64 0,.int .u64 n]):=by
 rcases hn with rfl|rfl|rfl|rfl|rfl|rfl|rfl;all_goals
  refine gN au func225 VB VC rfl ?_;conv=>whnf
  repeat' ((first|refine qn ?_|refine jd rfl rfl (λw=>rfl) (λw=>rfl) ?_)<;>conv=>whnf)
  exact⟨rfl,rfl⟩
theorem G3 (n:Int) (h:Heap) (hn:n=0\/n=1\/n=2\/n=3\/n=4\/n=5\/n=6):Pure prog 218 [.int .u64 1,.int .u64 n] h (.tuple #[.int .u64 0,.int .u64 n]):=by
 refine gN au func218 Vp Vq rfl ?_;conv=>whnf
 refine ay (MK n h hn) ?_;conv=>whnf
 exact⟨rfl,rfl⟩
theorem V0 {k:IntKind} {x r:Int} {K:Int->Prop} (h:k.wrap x=r) (hk:K r):Ar k x K:=qn (by rw[h];exact hk)
theorem wrap_u64 {x:Int} (h0:0<=x) (h1:x<=1000000):IntKind.u64.wrap x=x:=by
 simp[IntKind.wrap,IntKind.bits,IntKind.signed];omega
theorem AW (a b:Nat):Nat.min a b=min a b:=rfl
theorem Jx (t n:Int) (v:Value) (h:Heap) (hr:F2 h v [t]) (hn:0<=n/\n<=6) :
  bI prog 202 [v,.int .i64 n] h λv h'=>h.le h'/\∃ B,dV h' v (List.replicate n.toNat t) B/\∀ b∈B,h b=none:=by
 obtain⟨_,_,p,c,rfl,hc,Mo⟩:=hr;have hrq:∃ b off,p=some ⟨b,off,none⟩/\eG h b off 1=some [.int .i64 t]:=by
  rcases Mo with hx|⟨b,off,h1,h2⟩
  ·simp at hx
  ·exact⟨b,off,h1,by simpa [bO]using h2⟩
 obtain⟨b0,aan,rfl,hrq⟩:=hrq;refine bS au func202 UX UY rfl ?_;conv=>whnf
 refine bL ?_;conv=>whnf
 refine V0 (r:=1) (wrap_u64 (by simp) (by simp)) ?_;conv=>whnf
 refine V0 (wrap_u64 (by omega) (by omega)) ?_;conv=>whnf
 refine ay (G3 n h (by omega)) ?_;conv=>whnf
 refine bL ?_;conv=>whnf
 refine aj ?_;conv=>whnf
 refine ob ⟨rfl,by omega,by show(_:Int)*((8:Nat):Int)<=_;omega,by omega⟩ ?_;conv=>whnf
 refine new (λb U=>?_);conv=>whnf
 have hle:h.le (h.set b (.cells (List.replicate n.toNat [Value.int .i64 0]).flatten.toArray 3)):=Heap.aM (Heap.le_refl h) U;have bz:(h.set b (.cells (List.replicate n.toNat [Value.int .i64 0]).flatten.toArray 3)) b=some (.cells (List.replicate n.toNat (Value.int .i64 0)).toArray 3 (0,0)):=by
  rw[List.flatten_replicate_singleton];simp[Heap.set]
 refine Es (vs:=List.replicate (min 1 n.toNat) (.int .i64 t)) au rfl rfl rfl rfl rfl (.inr ⟨b0,aan,rfl,?_⟩) bz (by simp;omega) ?_ ?_
 ·by_cases h0:n=0
  ·subst h0;rfl
  ·have h1:Nat.min (List.map bO [t]).length n.toNat=1:=by show min 1 n.toNat=1;omega
   have h2:min 1 n.toNat=1:=by omega
   rw[h1,h2];exact bK hle hrq
 ·have:=dw (List.replicate (min 1 n.toNat) t);rwa [List.map_replicate]at this
 have hcell:∀ k:Nat,k<=n.toNat->∀ m,m<=k->k+m<=n.toNat->ep (List.replicate k (Value.int .i64 t)++List.replicate (n.toNat-k) (Value.int .i64 0)) k (List.replicate m (.int .i64 t))=List.replicate (k+m) (Value.int .i64 t)++List.replicate (n.toNat-(k+m)) (Value.int .i64 0):=by
  intro k hk m hm hkm;have:=gT (List.replicate m (Value.int .i64 t)) (List.replicate k (Value.int .i64 t)) (List.replicate (n.toNat-k) (Value.int .i64 0)) (by simp;omega);rw[List.length_replicate]at this;rw[this];simp only[List.length_replicate,List.drop_replicate,List.replicate_append_replicate];congr 2
  omega
 have V1:ep (List.replicate n.toNat (Value.int .i64 0)) 0 (List.replicate (min 1 n.toNat) (.int .i64 t))=List.replicate (min 1 n.toNat) (Value.int .i64 t)++List.replicate (n.toNat-min 1 n.toNat) (Value.int .i64 0):=by
  have:=gT (List.replicate (min 1 n.toNat) (Value.int .i64 t)) [] (List.replicate n.toNat (Value.int .i64 0)) (by simp;omega);simpa [List.drop_replicate]using this
 rw[V1,set_set];have P1:((Nat.min (List.map bO [t]).length n.toNat:Nat):Int)=((min 1 n.toNat:Nat):Int):=by rw[AW];simp
 rw[P1];conv=>whnf
 refine fm [7,8] [] (λk:Nat=>k<=n.toNat/\(0 < n->1<=k)) (λk=>n.toNat-k)
  (λk=>([.v (.slice (some ⟨b,0,none⟩) n.toNat n.toNat),.v (.int .i64 k)],[],h.set b (.cells (List.replicate k (Value.int .i64 t)++List.replicate (n.toNat-k) (Value.int .i64 0)).toArray 3))) (min 1 n.toNat) ⟨by omega,by omega⟩ rfl ?_
 rintro k ⟨hk,FZ⟩;conv=>whnf
 apply ax<;>intro g;all_goals conv=>whnf
 ·have V2:k < n.toNat:=by omega
  have eX:(h.set b (.cells (List.replicate k (Value.int .i64 t)++List.replicate (n.toNat-k) (Value.int .i64 0)).toArray 3)) b=some (.cells (List.replicate k (Value.int .i64 t)++List.replicate (n.toNat-k) (Value.int .i64 0)).toArray 3 (0,0)):=by simp[Heap.set]
  refine aq ?_;conv=>whnf
  refine sub (λoa k1 k2=>?_);have hoa:oa=some ⟨b,k,none⟩:=by rw[k1 (by omega)];simp[kZ]
  subst hoa;conv=>whnf
  refine aq ?_;conv=>whnf
  refine Es (vs:=List.replicate (min k (n.toNat-k)) (.int .i64 t)) au rfl rfl rfl rfl rfl (.inr ⟨b,0,rfl,?_⟩) eX (by simp;omega) ?_ ?_
  ·have h1:Nat.min (k:Int).toNat (n.toNat-(k:Int).toNat)=min k (n.toNat-k):=by rw[AW];simp
   rw[h1];show eG _ b 0 (min k (n.toNat-k)*1)=_;rw[Nat.mul_one,bP eX _ _ (by simp;omega),List.drop_zero,List.take_append_of_le_length (by simp;omega),List.take_replicate];congr 2;omega
  ·have:=dw (List.replicate (min k (n.toNat-k)) t);rwa [List.map_replicate]at this
  rw[hcell k (by omega) _ (by omega) (by omega),set_set];have F7:((Nat.min (k:Int).toNat (n.toNat-(k:Int).toNat):Nat):Int)=((min k (n.toNat-k):Nat):Int):=by rw[AW,Int.toNat_natCast]
  rw[F7];conv=>whnf
  refine aj ?_;conv=>whnf
  refine dm (k+min k (n.toNat-k)) ⟨by omega,by omega⟩ (by omega) rfl
 ·have V2:k=n.toNat:=by omega
  subst V2;refine⟨Heap.aM (Heap.le_refl h) U,[b],fR (t:=3) (λx hx=>by simp only[List.map_replicate]at hx;rw[List.eq_of_mem_replicate hx];rfl) (by simp) ?_,by simpa using U⟩;simp[Heap.set,dA,List.map_replicate,bO]
theorem kq.grow {h0 h:Heap} {bs bm bf off:Nat} {u:aU} {m:cB} {fs:List bU} {f:bU} {M:bZ} {B:List Nat} (hS:kq h0 h bs bm bf off u m fs f M B) (hl:M.objs.length<=1000) :
  ∃ t p c vf vs,h bm=some (.cells (aB (.slice p M.objs.length c) vf vs M).toArray t (0,0)) /\
   ∀ {bytes:Nat} {zero:List Value} {el:TypeId} {m':Nat} (a:Ob) (Bv:List Nat) (y:List Value) (K:Value->Heap->Prop),lu h y a Bv->Nd Bv->(∀ b∈Bv,b ∉ bm::B/\b≠bs/\h0 b=none)->m'=1->y.length=2->dG y=true->zero.length=2->bytes<=1000 ->
    (∀ p' c' h2,h2 bm=h bm->h2 bs=h bs->h0.le h2->(∃ B',kq h0 (h2.set bm (.cells (aB (.slice p' (M.objs.length+1) c') vf vs M).toArray t (0,0))) bs bm bf off u m fs f {M with objs:=M.objs++[a]} B' /\
     Ev h (h2.set bm (.cells (aB (.slice p' (M.objs.length+1) c') vf vs M).toArray t (0,0))) ((bm::B)++Bv) (bm::B'))->K (.slice p' (M.objs.length+1) c') h2)->App bytes 2 zero el h p M.objs.length c m' y K:=by
 obtain⟨hM,hf,⟨jg,c0,hr⟩,⟨ms,us,ts,dZ,hu,hm⟩,eU⟩:=hS;have nd:=hM.nd;have fI:=hM.in;have hle:=hM.le;have gA:=hM.fr;obtain⟨t,vo,vf,vs,B1,B2,B3,U,h1,h2,h3,rfl,eF⟩:=hM.whole;obtain⟨p,c,rfl,hc⟩:=h1.form;refine⟨t,p,c,vf,vs,by simpa using U,?_⟩;intro bytes zero el m' a Bv y K k1 k2 k3 k4 k5 k6 k7 k8 k9;have hv:∀ b∈Bv,b ∉ B1/\b ∉ B2/\b ∉ B3/\b≠bm/\b≠bs:=by
  intro b bz;have:=k3 b bz;simp at this;grind
 have hB:∀ b∈B1,b ∉ B2/\b ∉ B3/\b≠bm/\b≠bs:=by
  intro b bz;have hp:=List.count_pos_iff.2 bz;have hn:=nd b;simp only[List.count_append,List.count_cons]at hn;refine⟨λhx=>?_,λhx=>?_,?_,?_⟩
  ·have:=List.count_pos_iff.2 hx;omega
  ·have:=List.count_pos_iff.2 hx;omega
  ·rintro rfl;simp at hn;omega
  ·rintro rfl;exact eU (by simp[bz])
 have iq:bm ∉ B1++B2++B3:=by
  intro hx;have:=List.count_pos_iff.2 hx;have hn:=nd bm;simp only[List.count_cons,beq_self_eq_true,if_true]at hn;omega
 have EL:Nd (B1++B2++B3):=nd.less λa=>by simp only[List.count_cons];omega
 have EM:Nd (B1++Bv):=by
  have:=Nd.swap (A:=B1) (X:=B2++B3) (X':=Bv) (EL.perm λa=>by simp only[List.count_append];omega) k2 (λb bz=>.inr (hv b bz).1);exact this
 refine nU jD xX (h0:=h0) h1 k1 EM (λb bz=>?_) hle k4 k5 k6 k7 (by have:=Nat.mul_le_mul (show M.objs.length+1<=1001 by omega) k8;omega) (by omega) ?_
 ·rcases List.mem_append.1 bz with bz|bz
  ·exact gA b (by simp[bz])
  ·exact(k3 b bz).2.2
 intro v' iN jf g1 g2 g3 g4 g5;obtain⟨p',c',rfl,_⟩:=g2.form;have hlen:(M.objs++[a]).length=M.objs.length+1:=by simp
 rw[hlen]at g2 ⊢;have same:∀ b,b ∉ B1->b ∉ Bv->h b≠none->iN b=h b:=λb n1 n2 n3=>g5.ic b n3 (by simp[n1,n2]);have e1:iN bm=h bm:=same bm (λhx=>iq (by simp[hx])) (λhx=>(hv _ hx).2.2.2.1 rfl) (by rw[U];simp);have e2:iN bs=h bs:=same bs (λhx=>eU (by simp[hx])) (λhx=>(hv _ hx).2.2.2.2 rfl) (by rw[dZ];simp);refine k9 p' c' iN e1 e2 g1 ?_;have P2:bm ∉ jf:=by
  intro hx;rcases g5.new bm hx with hy|hy
  ·rcases List.mem_append.1 hy with hy|hy
   ·exact iq (by simp[hy])
   ·exact(hv _ hy).2.2.2.1 rfl
  ·rw[U]at hy;cases hy
 have jG:∀ C:List Nat,(∀ b∈C,b≠bm/\b ∉ B1/\b ∉ Bv)->cC h (iN.set bm (.cells (aB (.slice p' (M.objs.length+1) c') vf vs M).toArray t (0,0))) C:=by
  intro C hC b bz o ho;have:=hC b bz;simp only[Heap.set,this.1,if_false];rw[same b this.2.1 this.2.2 (by rw[ho];simp)];exact ho
 have d2:∀ b∈B2,b≠bm/\b ∉ B1/\b ∉ Bv:=λb bz=>⟨λhx=>iq (by simp[<-hx,bz]),λhx=>(hB b hx).1 bz,λhx=>(hv b hx).2.1 bz⟩
 have d3:∀ b∈B3,b≠bm/\b ∉ B1/\b ∉ Bv:=λb bz=>⟨λhx=>iq (by simp[<-hx,bz]),λhx=>(hB b hx).2.1 bz,λhx=>(hv b hx).2.2.1 bz⟩
 have DX:Ev h (iN.set bm (.cells (aB (.slice p' (M.objs.length+1) c') vf vs M).toArray t (0,0))) ((bm::(B1++B2++B3))++Bv) (bm::(jf++B2++B3)):=by
  refine⟨λb bz hn=>?_,λb bz=>?_⟩
  ·have:b≠bm:=λhx=>hn (by simp[hx]);simp only[Heap.set,this,if_false];exact same b (λhx=>hn (by simp[hx])) (λhx=>hn (by simp[hx])) bz
  ·have:b∈jf\/b∈bm::(B2++B3):=by simp at bz ⊢;grind
   rcases this with hx|hx
   ·exact(g5.new b hx).imp (λhy=>by simp at hy ⊢;grind) id
   ·exact .inl (by simp at hx ⊢;grind)
 have EN:Nd (bm::(jf++B2++B3)):=by
  have:=Nd.swap (A:=bm::(B2++B3)) (X:=B1) (X':=jf) (nd.perm λa=>by simp only[List.count_append,List.count_cons];omega) g3 (λb bz=>?_)
  ·exact this.perm λa=>by simp only[List.count_append,List.count_cons];omega
  ·rcases g5.new b bz with hx|hx
   ·rcases List.mem_append.1 hx with hx|hx
    ·exact .inl hx
    ·have:=hv b hx;exact .inr (by simp;grind)
   ·refine .inr λhy=>?_;obtain⟨o,ho⟩:=fI b (by simp at hy ⊢;grind);rw[hx]at ho;cases ho
 have Js:gz h0 (iN.set bm (.cells (aB (.slice p' (M.objs.length+1) c') vf vs M).toArray t (0,0))) bm [] [] {M with objs:=M.objs++[a]} (jf++B2++B3):=by
  have aao:h0.le (iN.set bm (.cells (aB (.slice p' (M.objs.length+1) c') vf vs M).toArray t (0,0))):=Heap.aM g1 (gA bm (by simp));refine⟨aao,⟨aB (.slice p' (M.objs.length+1) c') vf vs M,t,by simp[Heap.set],_,vf,vs,jf,B2,B3,rfl,?_,?_,?_,rfl⟩,EN,?_⟩
  ·refine g2.aG jD λb bz o ho=>?_;have:b≠bm:=by rintro rfl;exact P2 bz
   simp only[Heap.set,this,if_false];exact ho
  ·exact h2.aG qz (jG B2 d2)
  ·exact h3.aG (jG B3 d3)
  ·intro b bz;have:b∈jf\/b∈bm::(B1++B2++B3):=by simp at bz ⊢;grind
   rcases this with hx|hx
   ·exact g4 b hx
   ·exact gA b hx
 refine⟨jf++B2++B3,⟨Js,hf,⟨jg,c0,?_⟩,⟨ms,us,ts,?_,hu,hm⟩,?_⟩,DX⟩
 ·have e3:rd h bm 1=some vf:=bG U (i:=1) (by simp) rfl;rw[hr]at e3;have e4:rd (iN.set bm (.cells (aB (.slice p' (M.objs.length+1) c') vf vs M).toArray t (0,0))) bm 1=some vf:=by rw[lU];rfl
  rw[e4,<-e3]
 ·have:bs≠bm:=λhx=>eU (by simp[hx]);simp only[Heap.set,this,if_false];rw[e2];exact dZ
 ·intro hx;rcases DX.new bs hx with hy|hy
  ·rcases List.mem_append.1 hy with hy|hy
   ·exact eU hy
   ·exact(hv _ hy).2.2.2.2 rfl
  ·rw[dZ]at hy;cases hy
theorem mZ (n:Int) (h:Heap):Pure prog 144 [.int .i64 n] h (.agg #[.bool true,.int .i64 n]):=by
 refine gN au func144 Tn To rfl ?_;conv=>whnf
 exact⟨rfl,rfl⟩
def nothing (t:Int):Vl:=⟨!decide (t=1),0⟩
theorem F8 (h0 h:Heap) (bs bm bf off:Nat) (u:aU) (m:cB) (fs:List bU) (f:bU) (M:bZ) (B:List Nat) (k:Int) (types:List Int) (vt:Value) (Bt:List Nat) (hS:kq h0 h bs bm bf off u m fs f M B)
  (ot:dV h vt types Bt) (kS:types.length<=1000) (hl:M.objs.length<=1000) :
  cH prog 200 [.pointer (some ⟨bs,0,none⟩),.int .i64 k,vt] h λo h'=>match o with
   | .ret _=>f.stack.length < 4/\∃ B',kq h0 h' bs bm bf off u m fs {f with stack:=f.stack++[⟨true,M.objs.length+1⟩]} {M with objs:=M.objs++[⟨k,types.map nothing⟩],ag:=fs++[{f with stack:=f.stack++[⟨true,M.objs.length+1⟩]}]} B'/\Ev h h' (bm::B) (bm::B')
   | .lE c=>4<=f.stack.length/\c=jE 0/\Pn h0 bm h':=by
 obtain⟨pt,ct,rfl,_⟩:=ot.form;have iS:=dY bO types;have fI:=hS.ma.in;refine outs au func200 US UT rfl ?_;conv=>whnf
 refine fm [0,1,6,9,10,11] [] (λs:Nat × Heap × Option Addr × Nat × List Nat=>s.1<=types.length/\h.le s.2.1/\cq s.2.1 (.slice s.2.2.1 s.1 s.2.2.2.1) ((types.take s.1).map nothing) s.2.2.2.2/\∀ b∈s.2.2.2.2,h b=none) (λs=>types.length-s.1)
  (λs=>([.v (.pointer (some ⟨bs,0,none⟩)),.v (.int .i64 k),.v (.slice s.2.2.1 s.1 s.2.2.2.1),.v (.slice pt (types.map bO).length ct),.v (.int .i64 (types.map bO).length),.v (.int .i64 s.1)],[],s.2.1))
  (0,h,none,0,[]) ⟨by omega,Heap.le_refl h,⟨by simp,.inl ⟨rfl,by simp,rfl⟩⟩,by simp⟩ rfl ?_
 rintro⟨i,h1,p,c,Bv⟩ ⟨hi,l1,ov,nv⟩;simp only at hi l1 ov nv ⊢;conv=>whnf
 apply ax<;>intro g;all_goals conv=>whnf
 ·have cG:i < types.length:=by omega
  have e:=(show dV h1 (.slice pt (types.map bO).length ct) types Bt from ot.aG (cC.of_le l1 _)).nth (i:=i) (by simpa using cG);obtain⟨b,hq,e1,_⟩:=e;rw[List.getElem_map]at e1;have e2:rd h1 b (0+i*1)=some (.int .i64 types[i]):=by simpa using aK e1 (i:=0) rfl
  refine aq ?_;conv=>whnf
  refine aO hq ?_;conv=>whnf
  refine ld e2 ?_;conv=>whnf
  refine ay (CU _ _) ?_;conv=>whnf
  have cO:((types.take i).map nothing).length=i:=by simp;omega
  refine cY (h0:=h) (ys:=[bR (nothing types[i])]) ov nv l1 rfl rfl (by simp[bR]) rfl rfl (by simp;omega) (by simp;omega) ?_;intro v' h2 B2 g1 g2 g3 g4 g5;have zy:cq h2 v' ((types.take (i+1)).map nothing) B2:=by
   unfold cq;rw[<-List.take_append_getElem cG,List.map_append,List.map_append];exact g2
  obtain⟨p',c',rfl,_⟩:=zy.form;have AX:(((types.take (i+1)).map nothing).map bR).length=i+1:=by simp;omega
  rw[AX]at zy ⊢;conv=>whnf
  refine aj ?_;conv=>whnf
  exact dm (i+1,h2,p',c',B2) ⟨by omega,g1,zy,g3⟩ (by simp only;omega) rfl
 ·have nV:i=types.length:=by omega
  subst nV;rw[List.take_length]at ov;have fE:=hS.mono l1;obtain⟨r1,r2,_,_⟩:=fE.mp;obtain⟨t,po,co,vf,vs,U,grow⟩:=fE.grow hl;have r3:rd h1 bm 0=some (.slice po M.objs.length co):=ec U rfl;have sR:∀ b∈Bv,b ∉ bm::B/\b≠bs/\h0 b=none:=by
   intro b bz;have hn:=nv b bz;refine⟨λhx=>?_,?_,?_⟩
   ·obtain⟨o,ho⟩:=fI b hx;rw[hn]at ho;cases ho
   ·rintro rfl;have:=hS.mp.1;unfold rd at this;rw[hn]at this;cases this
   ·cases hh:h0 b with
    | none=>rfl
    | some o=>rw[hS.ma.le b o hh]at hn;cases hn
  repeat' ((first|exact trivial|refine ld r2 ?_|refine ld r3 ?_|apply And.intro)<;>conv=>whnf)
  all_goals
   refine grow ⟨k,types.map nothing⟩ Bv _ _ ⟨_,rfl,ov⟩ ov.nd sR rfl rfl rfl rfl (by simp) ?_;rintro p' c' h2 e1 e2 e3 ⟨B',LK,rT⟩;have yc:rd h2 bs 11=some (.pointer (some ⟨bm,0,none⟩)):=by unfold rd at r2 ⊢;rw[e2];exact r2
   have eX:=e1.trans U;conv=>whnf
   (try refine ld yc ?_)
   conv=>whnf
   have jO:ep (aB (.slice po M.objs.length co) vf vs M) 0 [.slice p' (M.objs.length+1) c']=aB (.slice p' (M.objs.length+1) c') vf vs M:=rfl;have q1:=LK.mp.2.1;have q2:rd (h2.set bm (.cells (aB (.slice p' (M.objs.length+1) c') vf vs M).toArray t (0,0))) bm 0=some (.slice p' (M.objs.length+1) c'):=by rw[lU];rfl
   refine st eX (by simp[aB]) ?_;rw[jO];generalize h2.set bm (.cells (aB (.slice p' (M.objs.length+1) c') vf vs M).toArray t (0,0))=h3 at *;conv=>whnf
   refine ld q1 ?_;conv=>whnf
   refine ld q2 ?_;conv=>whnf
   refine ay (mZ _ _) ?_;conv=>whnf
   have ev:Ev h h3 (bm::B) (bm::B') :=
    Ev.trans (Ev.of_le l1 ((bm::B)++Bv) (λb bz=>(List.mem_append.1 bz).imp id (nv b))) rT
   refine cW (oZ h0 h3 bs bm bf off u m fs f _ B' ⟨true,((M.objs.length+1:Nat):Int)⟩ LK) ?_ ?_
   ·rintro v h' ⟨k1,B2,k2,k3⟩;conv=>whnf
    have hc:(⟨true,((M.objs.length+1:Nat):Int)⟩:Vl)=⟨true,M.objs.length+1⟩:=by simp
    rw[hc]at k2;exact⟨k1,B2,k2,ev.trans k3⟩
   ·rintro c h' ⟨k1,k2,k3⟩;exact⟨k1,k2,k3⟩
def cJ:Vl:=⟨false,0⟩
abbrev xe:=Except Int (List Ob × bU)
def di (objs:List Ob) (f:bU) (v:Vl):xe:=if f.stack.length < 4 then .ok (objs,{f with stack:=f.stack++[v]})else .error 0
def uf (k:Int) (types:List Int) (objs:List Ob) (f:bU):xe:=di (objs++[⟨k,types.map nothing⟩]) f ⟨true,objs.length+1⟩
def ef (objs:List Ob) (n:Int) (so:Bool):Except Int Ob:=if 0 < n/\so=false then .error 0 else if n=0 then .error 2 else .ok (aF objs n)
def putAt (l:List Vl) (i:Int) (v:Vl):List Vl:=l.set i.toNat v
def iQ (objs:List Ob) (n:Int) (bE:List Vl):List Ob:=objs.set (n-1).toNat {aF objs n with bE:=bE}
def qB (objs:List Ob) (x:Vl) (k n:Int):Except Int Ob :=
 match ef objs x.n (decide ((aF objs x.n).cls=o7 k))with
 | .error e=>.error e
 | .ok o=>if 0<=n/\n < o.bE.length then .ok o else .error 3
def bH (u:aU) (x:dX) (aS:List Vl) (objs:List Ob) (f:bU):xe :=
 let a:=aS.getD 0 cJ
 let b:=aS.getD 1 cJ
 let c:=aS.getD 2 cJ
 if x.kind=12 then uf x.a (cX u.J x.a) objs f
 else if x.kind=13 then (if 0<=a.n/\a.n<=6 then uf (o7 x.a) (List.replicate a.n.toNat (if x.a=0 then 1 else 8)) objs f else .error 4)
 else if x.kind=14 then (match ef objs a.n (decide ((aF objs a.n).cls < 0))with
  | .error e=>.error e
  | .ok o=>di objs f ⟨false,o.bE.length⟩)
 else if x.kind=15 then (match qB objs a x.a b.n with
  | .error e=>.error e
  | .ok o=>di objs f (o.bE.getD b.n.toNat cJ))
 else if x.kind=16 then (match qB objs a x.a b.n with
  | .error e=>.error e
  | .ok o=>.ok (iQ objs a.n (putAt o.bE b.n c),f))
 else if x.kind=17 then (match ef objs a.n (up u.J (aF objs a.n).cls x.a)with
  | .error e=>.error e
  | .ok o=>di objs f (o.bE.getD x.b.toNat cJ))
 else if x.kind=18 then (match ef objs a.n (up u.J (aF objs a.n).cls x.a)with
  | .error e=>.error e
  | .ok o=>.ok (iQ objs a.n (putAt o.bE x.b b),f))
 else if x.kind=19 then (if 0 < a.n/\ju u.J (typeOf (aF objs a.n).cls) (8+x.a)=false then .error 5 else di objs f a)
 else .ok (objs,f)
theorem gh {objs:List Ob} {n:Int} {so:Bool} (h1:0 < n) (h2:so=true):ef objs n so=.ok (aF objs n):=by
 subst h2;simp[ef];omega
theorem fS {objs:List Ob} {n:Int} {so:Bool} (h1:0 < n) (h2:so=false):ef objs n so=.error 0:=by
 subst h2;simp[ef,h1]
theorem fT {objs:List Ob} {n:Int} {so:Bool} (h1:n=0):ef objs n so=.error 2:=by
 subst h1;simp[ef]
theorem AY {objs:List Ob} {x:Vl} {k n:Int} (h1:0 < x.n) (h2:(aF objs x.n).cls=o7 k) (h3:0<=n/\n < (aF objs x.n).bE.length):qB objs x k n=.ok (aF objs x.n):=by
 unfold qB;rw[gh h1 (by simp[h2])];simp[h3]
theorem ye {objs:List Ob} {x:Vl} {k n:Int} (h1:0 < x.n) (h2:(aF objs x.n).cls≠o7 k):qB objs x k n=.error 0:=by
 unfold qB;rw[fS h1 (by simp[h2])]
theorem yf {objs:List Ob} {x:Vl} {k n:Int} (h1:x.n=0):qB objs x k n=.error 2:=by
 unfold qB;rw[fT h1]
theorem sS {objs:List Ob} {x:Vl} {k n:Int} (h1:0 < x.n) (h2:(aF objs x.n).cls=o7 k) (h3:¬(0<=n/\n < (aF objs x.n).bE.length)):qB objs x k n=.error 3:=by
 unfold qB;rw[gh h1 (by simp[h2])];simp only;rw[if_neg h3]
theorem G4 (h:Heap) (bo n c:Nat) (k cls:Int) (hr:rd h bo (0+(k-1).toNat*2)=some (.int .i64 cls)) (hk:0 < k/\k<=n) (hn:n<=1000) (hc : -2<=cls/\cls<=900) :
  Pure prog 208 [.slice (some ⟨bo,0,none⟩) n c,.agg #[.bool true,.int .i64 k]] h (.int .i64 (typeOf cls)):=by
 refine gN au func208 U7 U8 rfl ?_;conv=>whnf
 refine bL ?_;conv=>whnf
 repeat' ((first|refine ld hr ?_|refine aq ?_|refine aj ?_|refine ptr ?_)<;>conv=>whnf)
 refine ay (GZ _ _ (by omega)) ?_;conv=>whnf
 exact⟨rfl,rfl⟩
theorem mg {pre x x' post:List Value} {n:Nat} (hn:n=pre.length) (hl:x'.length=x.length):ep (pre++x++post) n x'=pre++x'++post:=by
 subst hn;rw[List.append_assoc,gT x' pre (x++post) (by simp;omega),hl,List.drop_left]
def pP (u:aU) (x:dX) (aS:List Vl) (n:Nat):Prop :=
 (x.kind=13->∃ a,aS=[a])/\(x.kind=14->∃ a,aS=[a]/\a.ref=true)/\(x.kind=15->∃ a b,aS=[a,b]/\a.ref=true)/\(x.kind=16->∃ a b c,aS=[a,b,c]/\a.ref=true) /\
  (x.kind=17->∃ a,aS=[a]/\a.ref=true)/\(x.kind=18->∃ a b,aS=[a,b]/\a.ref=true)/\(x.kind=19->∃ a,aS=[a]/\a.ref=true)/\∀ v∈aS,v.ref=true->0<=v.n/\v.n<=n
def Jy (u:aU) (objs:List Ob):Prop:=∀ o∈objs,(-2<=o.cls/\o.cls < u.J.length)/\(0<=o.cls->o.bE.length=(cX u.J o.cls).length)
theorem ug {cs:List dR} (ok:cj cs):∀(k:Nat) {a b:Int},a.toNat < k->a < cs.length->up cs a b=true->(cX cs b).length<=(cX cs a).length
 | 0,a,b,h,_,_=>by omega
 | k+1,a,b,h,hl,hu=>by
  by_cases h0:0<=a
  ·rw[ig ok h0 hl]at hu;by_cases Og:a=b
   ·subst Og;exact Nat.le_refl _
   ·have hs:=ok.bN h0 hl;simp only[Og,decide_false,Bool.false_or]at hu;by_cases hz:0 < a
    ·have:=ug ok k (a:=bC cs a) (b:=b) (by omega) (by omega) hu;rw[lH ok hz hl,List.length_append];omega
    ·rw[qp (by omega)]at hu;cases hu
  ·rw[qp (by omega)]at hu;cases hu
theorem cn.put {h:Heap} {p:Option Addr} {n c:Nat} {l:List Vl} {B:List Nat} (ho:cq h (.slice p n c) l B) {i:Nat} (hi:i < l.length) :
  ∃ b pre x post t,p=some ⟨b,0,none⟩/\n=l.length/\h b=some (.cells (pre++x++post).toArray t (0,0))/\pre.length=i*2/\x=bR l[i]/\B=[b] /\
   ∀ h' v,h' b=some (.cells (pre++bR v++post).toArray t (0,0))->cq h' (.slice p n c) (l.set i v) B:=by
 have hm:l.map bR=(l.take i).map bR++bR l[i]::(l.drop (i+1)).map bR:=by
  have:=congrArg (List.map bR) (ud l hi);simpa only[List.map_append,List.map_cons]using this
 unfold cq at ho;rw[hm]at ho;obtain⟨b,c',pre,post,t,he,U,fV,xj,hB,eF⟩:=ho.at;simp only[Value.slice.injEq]at he;obtain⟨rfl,rfl,rfl⟩:=he;refine⟨b,pre,bR l[i],post,t,rfl,?_,U,?_,rfl,hB,λh' v bz=>?_⟩
 ·simp;omega
 ·rw[fV];simp;omega
 ·have:=eF h' (bR v) bz rfl;unfold cq;rw[List.set_eq_take_append_cons_drop,if_pos hi,List.map_append,List.map_cons];exact this
theorem cZ (h:Heap) (b:Nat) (o:Obj):(h.set b o) b=some o:=by simp[Heap.set]
theorem dI {h:Heap} {cs:List Value} {t:TypeId} {K:Nat->Heap->Prop} (jt:List Value) (hcs:cs=jt) (hk:∀ b h1,h b=none->h1=h.set b (.cells jt.toArray t)->h.le h1->h1 b=some (.cells jt.toArray t (0,0))->K b h1):Ig h cs t K:=by
 subst hcs;exact new λb U=>hk b _ U rfl (Heap.aM (Heap.le_refl h) U) (cZ _ _ _)
def ML (h0 h:Heap) (bs bm bf off:Nat) (u:aU) (m:cB) (fs:List bU) (M:bZ) (B:List Nat) (r:xe):Out->Heap->Prop:=λo h'=>match o with
 | .ret _=>∃ Ov f',r=.ok (Ov,f')/\∃ B',kq h0 h' bs bm bf off u m fs f' {M with objs:=Ov,ag:=fs++[f']} B'/\Ev h h' (bm::B) (bm::B')
 | .lE c=>∃ k,r=.error k/\c=jE k/\Pn h0 bm h'
theorem AZ {h0 h h1:Heap} {bs bm bf off:Nat} {u:aU} {m:cB} {fs:List bU} {f:bU} {M:bZ} {B B1:List Nat} (x:Vl) (hS:kq h0 h bs bm bf off u m fs f M B) (ev:Ev h1 h (bm::B1) (bm::B)) :
  cH prog 171 [.pointer (some ⟨bs,0,none⟩),.agg #[.bool x.ref,.int .i64 x.n]] h (ML h0 h1 bs bm bf off u m fs M B1 (di M.objs f x)):=by
 refine(oZ h0 h bs bm bf off u m fs f M B x hS).mono λo h' hh=>?_;cases o with
 | ret v =>
  obtain⟨k1,B',k2,k3⟩:=hh;exact⟨M.objs,{f with stack:=f.stack++[x]},by simp[di,k1],B',k2,ev.trans k3⟩
 | lE c =>
  obtain⟨k1,k2,k3⟩:=hh;exact⟨0,by simp[di];omega,k2,k3⟩
theorem cn.two {h:Heap} {p:Option Addr} {n c:Nat} {l:List Vl} {B:List Nat} (ho:cq h (.slice p n c) l B) {i:Nat} (hi:i < l.length):∃ b,p=some ⟨b,0,none⟩/\eG h b (0+i*2) 2=some (bR l[i])/\rd h b (0+i*2+1)=some (.int .i64 l[i].n)/\B=[b]/\n=l.length:=by
 obtain⟨_,_,he,_⟩:=ho.form;simp only[Value.slice.injEq]at he;obtain⟨b,h1,h2,h3⟩:=ho.nth (i:=i) (by simpa using hi);rw[List.getElem_map]at h2;exact⟨b,h1,h2,aK h2 (i:=1) rfl,h3,by have:=he.2.1;simpa using this⟩
theorem cn.all {h:Heap} {p:Option Addr} {n c:Nat} {l:List Vl} {B:List Nat} (ho:cq h (.slice p n c) l B) (cD:0 < l.length):∃ b,p=some ⟨b,0,none⟩/\n=l.length/\∀ i (hi:i < l.length),eG h b (0+i*2) 2=some (bR l[i])/\rd h b (0+i*2+1)=some (.int .i64 l[i].n):=by
 obtain⟨b,h1,_,_,hB,hn⟩:=ho.two cD;refine⟨b,h1,hn,λi hi=>?_⟩;obtain⟨b',ED,iN,h3',_⟩:=ho.two hi;rw[h1]at ED;simp only[Option.some.injEq,Addr.mk.injEq,and_true]at ED;subst ED;exact⟨iN,h3'⟩
theorem kq.at {h0 h:Heap} {bs bm bf off:Nat} {u:aU} {m:cB} {fs:List bU} {f:bU} {M:bZ} {B:List Nat} (hS:kq h0 h bs bm bf off u m fs f M B) {n:Int} (h1:0 < n) (h2:n<=M.objs.length) {bo c:Nat} (hr:rd h bm 0=some (.slice (some ⟨bo,0,none⟩) M.objs.length c)) :
  ∃ p k c' Bi,rd h bo (0+(n-1).toNat*2+1)=some (.slice p k c')/\cq h (.slice p k c') (aF M.objs n).bE Bi/\k=(aF M.objs n).bE.length /\
   ∀ h' fA,cq h' (.slice p k c') fA Bi->(∀ b,b ∉ Bi->h b≠none->h' b=h b)->∃ B',kq h0 h' bs bm bf off u m fs f {M with objs:=iQ M.objs n fA } B'/\Ev h h' (bm::B) (bm::B'):=by
 obtain⟨bo',c',v,Bi,s1,s2,s3,ov,eF⟩:=hS.jF h1 h2;rw[hr]at s1;simp only[Option.some.injEq,Value.slice.injEq,Addr.mk.injEq,and_true,true_and]at s1;obtain⟨rfl,rfl⟩:=s1;obtain⟨pv,cv,rfl,Ou⟩:=ov.form;exact⟨pv,_,cv,Bi,s3,ov,by simp,eF⟩
theorem jH {l:List Ob} {n:Int} (h1:0 < n) (h2:n<=l.length):aF l n∈l:=by
 have hi:(n-1).toNat < l.length:=by omega
 rw[ue hi (by omega)];exact List.getElem_mem _
theorem kI {cs:List dR} {a b:Int} (h:up cs a b=true):0<=a:=by
 rcases Int.lt_or_le a 0 with h0|h0
 ·rw[qp h0]at h;cases h
 ·exact h0
theorem rE {l:List Vl} {i:Nat} (hi:i < l.length):l.getD i cJ=l[i]:=by simp[hi]
theorem gU (h0 h:Heap) (bs bm bf off:Nat) (u:aU) (m:cB) (fs:List bU) (f:bU) (M:bZ) (B:List Nat) (x:dX) (aS:List Vl) (vt:Value) (Bt:List Nat) (hS:kq h0 h bs bm bf off u m fs f M B)
  (ot:cq h vt aS Bt) (jx:∀ b∈Bt,b ∉ bm::B/\b≠bs) (ok:cj u.J) (hk:12<=x.kind/\x.kind<=19) (hl:M.objs.length<=900) (sQ:Jy u M.objs) (ht:pP u x aS M.objs.length)
  (lq:x.kind=12\/x.kind=17\/x.kind=18\/x.kind=19->0<=x.a/\x.a < u.J.length) (Ow:x.kind=13->x.a=0\/x.a=1) (sP:x.kind=17\/x.kind=18->0<=x.b/\x.b < (cX u.J x.a).length) :
  cH prog 173 [.pointer (some ⟨bs,0,none⟩),.agg #[.int .i64 x.kind,.int .i64 x.a,.int .i64 x.b],vt] h (ML h0 h bs bm bf off u m fs M B (bH u x aS M.objs f)):=by
 obtain⟨kind,a,b⟩:=x;simp only at hk lq Ow sP ⊢;obtain⟨t13,t14,t15,t16,t17,t18,t19,tr⟩:=ht;simp only at t13 t14 t15 t16 t17 t18 t19;obtain⟨pt,ct,rfl,_⟩:=ot.form;have Yt:=hS;obtain⟨r1,r2,_,p,cc,q,d,hu,r9,gV,P3,_⟩:=hS.mp;have CT:=hu.le hS.ma.le;have hcs:fo h (.slice p u.J.length cc) u.J:=by
  obtain⟨p',c',q',d',he,hcs,_⟩:=CT.form;simp only[List.cons.injEq,Value.slice.injEq,true_and,and_true]at he;obtain⟨⟨rfl,rfl⟩,_⟩:=he;exact hcs
 have V3:=Ev.refl h (bm::B);have Ef:kind=12\/kind=13\/kind=14\/kind=15\/kind=16\/kind=17\/kind=18\/kind=19:=by omega
 rcases Ef with rfl|rfl|rfl|rfl|rfl|rfl|rfl|rfl
 ·
  have hc:=lq (.inl rfl);refine outs au func173 AO wu rfl ?_;conv=>whnf
  repeat' ((first|refine ld r9 ?_|refine aq ?_|refine aj ?_|refine ptr ?_)<;>conv=>whnf)
  refine cE (nq _ _ _ _ _ _ _ hcs ok hc.1 hc.2 (Nat.lt_succ_self _)) ?_;rintro v h1 ⟨l1,Bc,oc,nc⟩;refine⟨l1,?_⟩;conv=>whnf
  refine cW (F8 h0 h1 bs bm bf off u m fs f M B a (cX u.J a) v Bc (hS.mono l1) oc (by have:=fH ok hc.2;omega) (by omega)) ?_ ?_
  ·rintro v h' ⟨k1,B',k2,k3⟩;conv=>whnf
   refine⟨_,_,by simp[bH,uf,di,k1]<;>exact⟨rfl,rfl⟩,B',k2,(Ev.of_le l1 (bm::B) (λb U=>.inl U)).trans k3⟩
  ·rintro c h' ⟨k1,k2,k3⟩;exact⟨0,by simp[bH,uf,di];omega,k2,k3⟩
 ·
  obtain⟨v0,rfl⟩:=t13 rfl;have hi0:0 < [v0].length:=by simp
  obtain⟨b0,p7,n0,q0,_,_⟩:=ot.two hi0;simp only[List.getElem_cons_zero]at n0 q0;have ha:=Ow rfl;refine outs au func173 AO wu rfl ?_;conv=>whnf
  repeat' ((first|refine aO p7 ?_|refine ld q0 ?_|refine aq ?_|refine aj ?_|refine ptr ?_)<;>conv=>whnf)
  refine ay (CV _ _ _ _) ?_;conv=>whnf
  apply aV<;>intro g;all_goals conv=>whnf
  ·exact⟨4,by simp only[bH];simp;omega,rfl,hS.ma.pn⟩
  have dD:bH u ⟨13,a,b⟩ [v0] M.objs f=uf (o7 a) (List.replicate v0.n.toNat (if a=0 then 1 else 8)) M.objs f:=by
   simp[bH,g.1,g.2]
  repeat' ((first|exact trivial|apply And.intro|refine aO p7 ?_|refine ld q0 ?_|refine aT (oX _ _) ?_|refine aT (xW _ _) ?_|refine aq ?_|refine aj ?_|refine ptr ?_)<;>conv=>whnf)
  all_goals refine dI [Value.int .i64 (if a=0 then 1 else 8)] rfl (λb h1 U hh l1 hg=>?_)
  all_goals
   have Mo:F2 h1 (.slice (some ⟨b,0,none⟩) 1 1) [if a=0 then 1 else 8] :=
    ⟨by simp,by simp[bO],_,1,rfl,by simp,.inr ⟨b,0,rfl,(bP hg 1 0 (by simp)).trans rfl⟩⟩
   conv=>whnf
   have q0':=aX l1 q0;repeat' ((first|refine aO p7 ?_|refine ld q0' ?_|refine aT (oX _ _) ?_|refine aT (xW _ _) ?_|refine aq ?_|refine aj ?_|refine ptr ?_)<;>conv=>whnf)
   refine cE (Jx _ v0.n _ h1 Mo (by omega)) ?_;rintro v h2 ⟨l2,Bc,oc,nc⟩;refine⟨l2,?_⟩;conv=>whnf
   have F6:=Heap.le_trans l1 l2;refine cW (F8 h0 h2 bs bm bf off u m fs f M B (o7 a) _ v Bc (hS.mono F6) oc (by simp;omega) (by omega)) ?_ ?_
   ·rintro v h' ⟨k1,B',k2,k3⟩;conv=>whnf
    refine⟨_,{f with stack:=f.stack++[⟨true,M.objs.length+1⟩]},?_,B',k2,(Ev.of_le F6 (bm::B) (λb U=>.inl U)).trans k3⟩;rw[dD,uf,di,if_pos k1]
   ·rintro c h' ⟨k1,k2,k3⟩;refine⟨0,?_,k2,k3⟩;rw[dD,uf,di,if_neg (by omega)]
 ·
  obtain⟨v0,rfl,gD⟩:=t14 rfl;have hi0:0 < [v0].length:=by simp
  obtain⟨b0,p7,n0,q0,_,_⟩:=ot.two hi0;simp only[List.getElem_cons_zero]at n0 q0;have pQ:=tr v0 (by simp) gD;refine outs au func173 AO wu rfl ?_;conv=>whnf
  repeat' ((first|refine aO p7 ?_|refine dK n0 ?_|refine aq ?_|refine aj ?_|refine ptr ?_)<;>conv=>whnf)
  refine cW (AV h0 h bs bm bf off u m fs f M B v0 _ _ (λc=>decide (c < 0)) hS (.inr (.inr ⟨rfl,rfl⟩)) pQ (by omega) (λ_=>CZ h _)) ?_ ?_
  ·rintro v h' ⟨rfl,e1,e2,bo,c,e3,rfl⟩;have sQ:=hS.jF e1 pQ.2;obtain⟨bo',c',v,Bi,s1,s2,s3,ov,_⟩:=sQ;rw[e3]at s1;simp only[Option.some.injEq,Value.slice.injEq,Addr.mk.injEq,and_true,true_and]at s1;obtain⟨rfl,rfl⟩:=s1;obtain⟨pv,cv,rfl,Ou⟩:=ov.form;conv=>whnf
   repeat' ((first|refine ld s3 ?_|refine aq ?_|refine aj ?_|refine ptr ?_)<;>conv=>whnf)
   have dD:bH u ⟨14,a,b⟩ [v0] M.objs f=di M.objs f ⟨false,(((aF M.objs v0.n).bE.map bR).length:Int)⟩:=by
    simp only[bH,List.getD_cons_zero,ef,e2];simp;rw[if_neg (by omega)]
   rw[dD];refine cW (AZ ⟨false,(((aF M.objs v0.n).bE.map bR).length:Int)⟩ hS V3) ?_ ?_
   ·rintro v h' hh;conv=>whnf
    exact hh
   ·rintro c h' hh;exact hh
  ·rintro c h' ⟨rfl,e1⟩;rcases e1 with ⟨e1,e2,e3⟩|⟨e1,e3⟩
   ·exact⟨0,by simp only[bH,List.getD_cons_zero,ef,e2];simp[e1],e3,hS.ma.pn⟩
   ·exact⟨2,by simp only[bH,List.getD_cons_zero,ef];simp[e1],e3,hS.ma.pn⟩
 ·
  obtain⟨v0,v1,rfl,gD⟩:=t15 rfl;obtain⟨b0,p7,_,dQ⟩:=ot.all (by simp);have n0:=(dQ 0 (by simp)).1;have q1:=(dQ 1 (by simp)).2;simp only[List.getElem_cons_zero,List.getElem_cons_succ]at n0 q1;have pQ:=tr v0 (by simp) gD;have zU:(List.map bR [v0,v1]).length=2:=rfl;have dD:bH u ⟨15,a,b⟩ [v0,v1] M.objs f=(match qB M.objs v0 a v1.n with
   | .error e=>.error e
   | .ok o=>di M.objs f (o.bE.getD v1.n.toNat cJ)):=rfl
  rw[dD];refine outs au func173 AO wu rfl ?_;conv=>whnf
  repeat' ((first|exact trivial|apply And.intro|refine aO p7 ?_|refine ld q1 ?_|refine dK n0 ?_|refine aq ?_|refine aj ?_|refine ptr ?_)<;>conv=>whnf)
  all_goals
   refine qZ (z5 h0 h bs bm bf off u m fs f M B v0 a v1.n hS pQ (by omega)) ?_ ?_
   ·rintro v h1 ⟨l1,e1,e2,e3,e4,bo,c,bv,cv,nv,s1,s2,rfl⟩;refine⟨l1,?_⟩;have fE:=hS.mono l1;have m4:=fE.at e1 pQ.2 s1;obtain⟨p1,k1,c1,Bi,w1,ov,rfl,_⟩:=m4;rw[s2]at w1;simp only[Option.some.injEq,Value.slice.injEq]at w1;obtain⟨rfl,rfl,rfl⟩:=w1;have hi:v1.n.toNat < (aF M.objs v0.n).bE.length:=by omega
    have yg:=ov.all (by omega);obtain⟨bv',EO,_,yg⟩:=yg;simp only[Option.some.injEq,Addr.mk.injEq,and_true]at EO;subst EO;have n1:=(yg _ hi).1;rw[AY e1 e2 ⟨e3,e4⟩];simp only[rE hi];conv=>whnf
    repeat' ((first|refine aO p7 ?_|refine ld (aX l1 q1) ?_|refine dK n1 ?_|refine aq ?_|refine aj ?_|refine ptr ?_)<;>conv=>whnf)
    refine cW (AZ (aF M.objs v0.n).bE[v1.n.toNat] fE (Ev.of_le l1 (bm::B) (λb U=>.inl U))) ?_ ?_
    ·rintro v h' hh;conv=>whnf
     exact hh
    ·rintro c h' hh;exact hh
   ·rintro c h1 ⟨l1,e1⟩;have o9:=hS.ma.Jr l1;rcases e1 with ⟨e1,e2,e3⟩|⟨e1,e3⟩|⟨e1,e2,e3,e4⟩
    ·exact⟨0,by rw[ye e1 e2],e3,o9⟩
    ·exact⟨2,by rw[yf e1],e3,o9⟩
    ·exact⟨3,by rw[sS e1 e2 e3],e4,o9⟩
 ·
  obtain⟨v0,v1,v2,rfl,gD⟩:=t16 rfl;obtain⟨b0,p7,_,dQ⟩:=ot.all (by simp);have n0:=(dQ 0 (by simp)).1;have q1:=(dQ 1 (by simp)).2;have n2:=(dQ 2 (by simp)).1;simp only[List.getElem_cons_zero,List.getElem_cons_succ]at n0 q1 n2;have pQ:=tr v0 (by simp) gD;have zU:(List.map bR [v0,v1,v2]).length=3:=rfl;have dD:bH u ⟨16,a,b⟩ [v0,v1,v2] M.objs f=(match qB M.objs v0 a v1.n with
   | .error e=>.error e
   | .ok o=>.ok (iQ M.objs v0.n (putAt o.bE v1.n v2),f)):=rfl
  rw[dD];refine outs au func173 AO wu rfl ?_;conv=>whnf
  repeat' ((first|exact trivial|apply And.intro|refine aO p7 ?_|refine ld q1 ?_|refine dK n0 ?_|refine dK n2 ?_|refine aq ?_|refine aj ?_|refine ptr ?_)<;>conv=>whnf)
  all_goals
   refine qZ (z5 h0 h bs bm bf off u m fs f M B v0 a v1.n hS pQ (by omega)) ?_ ?_
   ·rintro v h1 ⟨l1,e1,e2,e3,e4,bo,c,bv,cv,nv,s1,s2,rfl⟩;refine⟨l1,?_⟩;have fE:=hS.mono l1;have m4:=fE.at e1 pQ.2 s1;obtain⟨p1,k1,c1,Bi,w1,ov,rfl,eF⟩:=m4;rw[s2]at w1;simp only[Option.some.injEq,Value.slice.injEq]at w1;obtain⟨rfl,rfl,rfl⟩:=w1;have hi:v1.n.toNat < (aF M.objs v0.n).bE.length:=by omega
    have P4:=cn.put ov hi;obtain⟨bv',pre,xx,post,tt,EO,_,P5,fV,zh,rfl,A1⟩:=P4;simp only[Option.some.injEq,Addr.mk.injEq,and_true]at EO;subst EO;rw[AY e1 e2 ⟨e3,e4⟩];conv=>whnf
    repeat' ((first|refine aO p7 ?_|refine dK (bK l1 n2) ?_|refine aq ?_|refine aj ?_|refine ptr ?_)<;>conv=>whnf)
    refine st P5 (by simp[zh,bR,fV]<;>omega) ?_;have hw:ep (pre++xx++post) (0+v1.n.toNat*2) [.bool v2.ref,.int .i64 v2.n]=pre++bR v2++post:=mg (by omega) (by rw[zh];rfl);have jO:=eF (h1.set bv (.cells (pre++bR v2++post).toArray tt (0,0))) _ (A1 _ v2 (cZ _ _ _)) (λb U _=>by simp only[Heap.set];rw[if_neg (by simpa using U)]);obtain⟨B',k1,k2⟩:=jO;rw[show ep (pre++xx++post) _ _=pre++bR v2++post from hw];conv=>whnf
    refine⟨_,_,rfl,B',?_,(Ev.of_le l1 (bm::B) (λb U=>.inl U)).trans k2⟩;have:=k1.ag;simp only at this;rw[<-hS.ag];exact k1
   ·rintro c h1 ⟨l1,e1⟩;have o9:=hS.ma.Jr l1;rcases e1 with ⟨e1,e2,e3⟩|⟨e1,e3⟩|⟨e1,e2,e3,e4⟩
    ·exact⟨0,by rw[ye e1 e2],e3,o9⟩
    ·exact⟨2,by rw[yf e1],e3,o9⟩
    ·exact⟨3,by rw[sS e1 e2 e3],e4,o9⟩
 ·
  obtain⟨v0,rfl,gD⟩:=t17 rfl;obtain⟨b0,p7,_,dQ⟩:=ot.all (by simp);have n0:=(dQ 0 (by simp)).1;simp only[List.getElem_cons_zero]at n0;have pQ:=tr v0 (by simp) gD;have zU:(List.map bR [v0]).length=1:=rfl;have hc:=lq (.inr (.inl rfl));have U:=sP (.inl rfl);have dD:bH u ⟨17,a,b⟩ [v0] M.objs f=(match ef M.objs v0.n (up u.J (aF M.objs v0.n).cls a)with
   | .error e=>.error e
   | .ok o=>di M.objs f (o.bE.getD b.toNat cJ)):=rfl
  rw[dD];refine outs au func173 AO wu rfl ?_;conv=>whnf
  repeat' ((first|exact trivial|apply And.intro|refine aO p7 ?_|refine dK n0 ?_|refine aq ?_|refine aj ?_|refine ptr ?_)<;>conv=>whnf)
  all_goals
   refine qZ (rD h0 h bs bm bf off u m fs f M B v0 a hS ok pQ (by omega) (λhp=>(sQ _ (jH hp pQ.2)).1.2)) ?_ ?_
   ·rintro v h1 ⟨l1,e1,e2,bo,c,s1,rfl⟩;refine⟨l1,?_⟩;have fE:=hS.mono l1;have m4:=fE.at e1 pQ.2 s1;obtain⟨p1,k1,c1,Bi,w1,ov,rfl,_⟩:=m4;have Ox:=sQ _ (jH e1 pQ.2);have Yu:=kI e2;have hle:=ug ok _ (Nat.lt_succ_self _) Ox.1.2 e2;have DY:=Ox.2 Yu;have hi:b.toNat < (aF M.objs v0.n).bE.length:=by omega
    have yg:=ov.all (by omega);obtain⟨bv,EO,_,yg⟩:=yg;have n1:=(yg _ hi).1;rw[gh e1 e2];simp only[rE hi];conv=>whnf
    repeat' ((first|exact trivial|apply And.intro|refine ld w1 ?_|refine aO EO ?_|refine dK n1 ?_|refine aq ?_|refine aj ?_|refine ptr ?_)<;>conv=>whnf)
    all_goals
     refine cW (AZ (aF M.objs v0.n).bE[b.toNat] fE (Ev.of_le l1 (bm::B) (λb U=>.inl U))) ?_ ?_
     ·rintro v h' hh;conv=>whnf
      exact hh
     ·rintro c h' hh;exact hh
   ·rintro c h1 ⟨l1,e1⟩;have o9:=hS.ma.Jr l1;rcases e1 with ⟨e1,e2,e3⟩|⟨e1,e3⟩
    ·exact⟨0,by rw[fS e1 e2],e3,o9⟩
    ·exact⟨2,by rw[fT e1],e3,o9⟩
 ·
  obtain⟨v0,v1,rfl,gD⟩:=t18 rfl;obtain⟨b0,p7,_,dQ⟩:=ot.all (by simp);have n0:=(dQ 0 (by simp)).1;have n1:=(dQ 1 (by simp)).1;simp only[List.getElem_cons_zero,List.getElem_cons_succ]at n0 n1;have pQ:=tr v0 (by simp) gD;have zU:(List.map bR [v0,v1]).length=2:=rfl;have hc:=lq (.inr (.inr (.inl rfl)));have U:=sP (.inr rfl);have dD:bH u ⟨18,a,b⟩ [v0,v1] M.objs f=(match ef M.objs v0.n (up u.J (aF M.objs v0.n).cls a)with
   | .error e=>.error e
   | .ok o=>.ok (iQ M.objs v0.n (putAt o.bE b v1),f)):=rfl
  rw[dD];refine outs au func173 AO wu rfl ?_;conv=>whnf
  repeat' ((first|exact trivial|apply And.intro|refine aO p7 ?_|refine dK n0 ?_|refine dK n1 ?_|refine aq ?_|refine aj ?_|refine ptr ?_)<;>conv=>whnf)
  all_goals
   refine qZ (rD h0 h bs bm bf off u m fs f M B v0 a hS ok pQ (by omega) (λhp=>(sQ _ (jH hp pQ.2)).1.2)) ?_ ?_
   ·rintro v h1 ⟨l1,e1,e2,bo,c,s1,rfl⟩;refine⟨l1,?_⟩;have fE:=hS.mono l1;have m4:=fE.at e1 pQ.2 s1;obtain⟨p1,k1,c1,Bi,w1,ov,rfl,eF⟩:=m4;have Ox:=sQ _ (jH e1 pQ.2);have Yu:=kI e2;have hle:=ug ok _ (Nat.lt_succ_self _) Ox.1.2 e2;have DY:=Ox.2 Yu;have hi:b.toNat < (aF M.objs v0.n).bE.length:=by omega
    have P4:=cn.put ov hi;obtain⟨bv,pre,xx,post,tt,EO,_,P5,fV,zh,rfl,A1⟩:=P4;rw[gh e1 e2];conv=>whnf
    repeat' ((first|exact trivial|apply And.intro|refine ld w1 ?_|refine aO EO ?_|refine aO p7 ?_|refine dK (bK l1 n1) ?_|refine aq ?_|refine aj ?_|refine ptr ?_)<;>conv=>whnf)
    all_goals
     refine st P5 (by simp[zh,bR,fV]<;>omega) ?_;have hw:ep (pre++xx++post) (0+b.toNat*2) [.bool v1.ref,.int .i64 v1.n]=pre++bR v1++post:=mg (by omega) (by rw[zh];rfl);have jO:=eF (h1.set bv (.cells (pre++bR v1++post).toArray tt (0,0))) _ (A1 _ v1 (cZ _ _ _)) (λb U _=>by simp only[Heap.set];rw[if_neg (by simpa using U)]);obtain⟨B',k1,k2⟩:=jO;rw[show ep (pre++xx++post) _ _=pre++bR v1++post from hw];conv=>whnf
     refine⟨_,_,rfl,B',?_,(Ev.of_le l1 (bm::B) (λb U=>.inl U)).trans k2⟩;rw[<-hS.ag];exact k1
   ·rintro c h1 ⟨l1,e1⟩;have o9:=hS.ma.Jr l1;rcases e1 with ⟨e1,e2,e3⟩|⟨e1,e3⟩
    ·exact⟨0,by rw[fS e1 e2],e3,o9⟩
    ·exact⟨2,by rw[fT e1],e3,o9⟩
 ·
  obtain⟨v0,rfl,gD⟩:=t19 rfl;obtain⟨b0,p7,_,dQ⟩:=ot.all (by simp);have n0:=(dQ 0 (by simp)).1;simp only[List.getElem_cons_zero]at n0;have pQ:=tr v0 (by simp) gD;have zU:(List.map bR [v0]).length=1:=rfl;have hc:=lq (.inr (.inr (.inr rfl)));have dD:bH u ⟨19,a,b⟩ [v0] M.objs f=(if 0 < v0.n/\ju u.J (typeOf (aF M.objs v0.n).cls) (8+a)=false then .error 5 else di M.objs f v0):=rfl;rw[dD];refine outs au func173 AO wu rfl ?_;conv=>whnf
  repeat' ((first|refine aO p7 ?_|refine dK n0 ?_|refine aq ?_|refine aj ?_|refine ptr ?_)<;>conv=>whnf)
  have fin:∀ {K:Value->Heap->Prop} {E:List PanicEntry->Heap->Prop},(∀ v h',ML h0 h bs bm bf off u m fs M B (di M.objs f v0) (.ret v) h'->K v h')->(∀ c h',ML h0 h bs bm bf off u m fs M B (di M.objs f v0) (.lE c) h'->E c h')->Vc.Call prog 171 [.pointer (some ⟨bs,0,none⟩),.agg #[.bool v0.ref,.int .i64 v0.n]] h K E:=λk1 k2=>cW (AZ v0 hS V3) k1 k2;by_cases rS:0 < v0.n
  ·have m4:=hS.jF rS pQ.2;obtain⟨bo,c,v,Bi,s1,s2,s3,_,_⟩:=m4;have Ox:=sQ _ (jH rS pQ.2);have LH:=ok.2.1;have Mg:EF u.J.length (typeOf (aF M.objs v0.n).cls):=by unfold EF typeOf;repeat' split<;>omega
   have aap:EF u.J.length (8+a):=by unfold EF;omega
   refine fX rS ?_;conv=>whnf
   rw[gD];repeat' ((first|refine ld r9 ?_|refine ld r2 ?_|refine ld s1 ?_|refine aq ?_|refine aj ?_|refine ptr ?_)<;>conv=>whnf)
   refine aT (G4 h bo _ c v0.n _ s2 ⟨rS,pQ.2⟩ (by omega) (by omega)) ?_;conv=>whnf
   repeat' ((first|refine aT (Jq _ _ _ _ _ _ h hcs ok Mg aap) ?_|refine aq ?_|refine aj ?_|refine ptr ?_)<;>conv=>whnf)
   apply bY<;>intro k;all_goals conv=>whnf
   ·exact⟨5,by rw[if_pos ⟨rS,k⟩],rfl,hS.ma.pn⟩
   ·rw[if_neg (by rw[k];simp)];rw[gD]at fin;refine fin ?_ ?_
    ·rintro v h' hh;conv=>whnf
     exact hh
    ·rintro c h' hh;exact hh
  ·refine cy rS ?_;conv=>whnf
   rw[if_neg (λhx=>rS hx.1)];refine fin ?_ ?_
   ·rintro v h' hh;conv=>whnf
    exact hh
   ·rintro c h' hh;exact hh
def A2 (_:Heap) (x:List Value) (a:Int) (B:List Nat):Prop:=x=bO a/\B=[]
theorem Oy:Kept A2:=λ_ _ _ _ _ _ h=>h
theorem inN:MG A2:=λ_ _ _ _ h b U=>by rw[h.2]at U;cases U
theorem Oz {h:Heap}:∀ l:List Int,Rows A2 h (l.map bO) l []
 | []=>.nil
 | a::l=>by have:=Rows.cons (R:=A2) (h:=h) (x:=bO a) (a:=a) (B1:=[]) ⟨rfl,rfl⟩ (Oz l);simpa using this
theorem Jz {h:Heap} {v:Value} {l:List Int} {B:List Nat} (ho:dV h v l B):eE A2 1 h v l B:=⟨_,B,[],ho,Oz l,by simp⟩
theorem G5 {h:Heap} {xs:List (List Value)} {l:List Int} {B:List Nat} (hr:Rows A2 h xs l B):xs=l.map bO/\B=[]:=by
 induction hr with
 | nil=>exact⟨rfl,rfl⟩
 | cons h1 _ ih=>obtain⟨rfl,rfl⟩:=h1;obtain⟨rfl,rfl⟩:=ih;exact⟨rfl,rfl⟩
theorem JA {h:Heap} {v:Value} {l:List Int} {B:List Nat} (ho:eE A2 1 h v l B):dV h v l B:=by
 obtain⟨xs,B0,B1,h1,h2,rfl⟩:=ho;obtain⟨rfl,rfl⟩:=G5 h2;simpa using h1
theorem gz.V4 {h0 h:Heap} {bm:Nat} {pre post:List Value} {M:bZ} {B:List Nat} (hM:gz h0 h bm pre post M B) (hl:M.objs.length<=1000) :
  ∃ t p c vf vs,h bm=some (.cells (pre++aB (.slice p M.objs.length c) vf vs M++post).toArray t (0,0)) /\
   ∀ {bytes:Nat} {zero:List Value} {el:TypeId} {m':Nat} (a:Ob) (Bv:List Nat) (y:List Value) (K:Value->Heap->Prop),lu h y a Bv->Nd Bv->(∀ b∈Bv,b ∉ bm::B/\h0 b=none)->m'=1->y.length=2->dG y=true->zero.length=2->bytes<=1000 ->
    (∀ p' c' iN,iN bm=h bm->(∀ b,b ∉ B->b ∉ Bv->h b≠none->iN b=h b)->h0.le iN->(∃ B',gz h0 (iN.set bm (.cells (pre++aB (.slice p' (M.objs.length+1) c') vf vs M++post).toArray t (0,0))) bm pre post {M with objs:=M.objs++[a]} B' /\
     Ev h (iN.set bm (.cells (pre++aB (.slice p' (M.objs.length+1) c') vf vs M++post).toArray t (0,0))) ((bm::B)++Bv) (bm::B'))->K (.slice p' (M.objs.length+1) c') iN)->App bytes 2 zero el h p M.objs.length c m' y K:=by
 have nd:=hM.nd;have fI:=hM.in;have hle:=hM.le;have gA:=hM.fr;obtain⟨t,vo,vf,vs,B1,B2,B3,U,h1,h2,h3,rfl,eF⟩:=hM.whole;obtain⟨p,c,rfl,hc⟩:=h1.form;refine⟨t,p,c,vf,vs,U,?_⟩;intro bytes zero el m' a Bv y K k1 k2 k3 k4 k5 k6 k7 k8 k9;have hv:∀ b∈Bv,b ∉ B1/\b ∉ B2/\b ∉ B3/\b≠bm:=by
  intro b bz;have:=k3 b bz;simp at this;grind
 have hB:∀ b∈B1,b ∉ B2/\b ∉ B3/\b≠bm:=by
  intro b bz;have hp:=List.count_pos_iff.2 bz;have hn:=nd b;simp only[List.count_append,List.count_cons]at hn;refine⟨λhx=>?_,λhx=>?_,?_⟩
  ·have:=List.count_pos_iff.2 hx;omega
  ·have:=List.count_pos_iff.2 hx;omega
  ·rintro rfl;simp at hn;omega
 have iq:bm ∉ B1++B2++B3:=by
  intro hx;have:=List.count_pos_iff.2 hx;have hn:=nd bm;simp only[List.count_cons,beq_self_eq_true,if_true]at hn;omega
 have EL:Nd (B1++B2++B3):=nd.less λa=>by simp only[List.count_cons];omega
 have EM:Nd (B1++Bv):=by
  have:=Nd.swap (A:=B1) (X:=B2++B3) (X':=Bv) (EL.perm λa=>by simp only[List.count_append];omega) k2 (λb bz=>.inr (by have:=hv b bz;grind));exact this
 refine nU jD xX (h0:=h0) h1 k1 EM (λb bz=>?_) hle k4 k5 k6 k7 (by have:=Nat.mul_le_mul (show M.objs.length+1<=1001 by omega) k8;omega) (by omega) ?_
 ·rcases List.mem_append.1 bz with bz|bz
  ·exact gA b (by simp[bz])
  ·exact(k3 b bz).2
 intro v' iN jf g1 g2 g3 g4 g5;obtain⟨p',c',rfl,_⟩:=g2.form;have hlen:(M.objs++[a]).length=M.objs.length+1:=by simp
 rw[hlen]at g2 ⊢;have same:∀ b,b ∉ B1->b ∉ Bv->h b≠none->iN b=h b:=λb n1 n2 n3=>g5.ic b n3 (by simp[n1,n2]);have e1:iN bm=h bm:=same bm (λhx=>iq (by simp[hx])) (λhx=>(hv _ hx).2.2.2 rfl) (by rw[U];simp);refine k9 p' c' iN e1 (λb n1 n2 n3=>same b (λhx=>n1 (by simp[hx])) n2 n3) g1 ?_;have P2:bm ∉ jf:=by
  intro hx;rcases g5.new bm hx with hy|hy
  ·rcases List.mem_append.1 hy with hy|hy
   ·exact iq (by simp[hy])
   ·exact(hv _ hy).2.2.2 rfl
  ·rw[U]at hy;cases hy
 have jG:∀ C:List Nat,(∀ b∈C,b≠bm/\b ∉ B1/\b ∉ Bv)->cC h (iN.set bm (.cells (pre++aB (.slice p' (M.objs.length+1) c') vf vs M++post).toArray t (0,0))) C:=by
  intro C hC b bz o ho;have:=hC b bz;simp only[Heap.set,this.1,if_false];rw[same b this.2.1 this.2.2 (by rw[ho];simp)];exact ho
 have d0:∀ b∈B2,b≠bm/\b ∉ B1/\b ∉ Bv:=λb bz=>⟨λhx=>iq (by simp[<-hx,bz]),λhx=>by have:=hB b hx;grind,λhx=>by have:=hv b hx;grind⟩
 have d1:∀ b∈B3,b≠bm/\b ∉ B1/\b ∉ Bv:=λb bz=>⟨λhx=>iq (by simp[<-hx,bz]),λhx=>by have:=hB b hx;grind,λhx=>by have:=hv b hx;grind⟩
 have DX:Ev h (iN.set bm (.cells (pre++aB (.slice p' (M.objs.length+1) c') vf vs M++post).toArray t (0,0))) ((bm::(B1++B2++B3))++Bv) (bm::(jf++B2++B3)):=by
  refine⟨λb bz hn=>?_,λb bz=>?_⟩
  ·have:b≠bm:=λhx=>hn (by simp[hx]);simp only[Heap.set,this,if_false];exact same b (λhx=>hn (by simp[hx])) (λhx=>hn (by simp[hx])) bz
  ·have:b∈jf\/b∈bm::(B2++B3):=by simp at bz ⊢;grind
   rcases this with hx|hx
   ·exact(g5.new b hx).imp (λhy=>by simp at hy ⊢;grind) id
   ·exact .inl (by simp at hx ⊢;grind)
 have EN:Nd (bm::(jf++B2++B3)):=by
  have:=Nd.swap (A:=bm::(B2++B3)) (X:=B1) (X':=jf) (nd.perm λa=>by simp only[List.count_append,List.count_cons];omega) g3 (λb bz=>?_)
  ·exact this.perm λa=>by simp only[List.count_append,List.count_cons];omega
  ·rcases g5.new b bz with hx|hx
   ·rcases List.mem_append.1 hx with hx|hx
    ·exact .inl hx
    ·have:=hv b hx;exact .inr (by simp;grind)
   ·refine .inr λhy=>?_;obtain⟨o,ho⟩:=fI b (by simp at hy ⊢;grind);rw[hx]at ho;cases ho
 refine⟨jf++B2++B3,⟨Heap.aM g1 (gA bm (by simp)),⟨aB (.slice p' (M.objs.length+1) c') vf vs M,t,by simp[Heap.set],_,vf,vs,jf,B2,B3,rfl,?_,?_,?_,rfl⟩,EN,?_⟩,DX⟩
 ·refine g2.aG jD λb bz o ho=>?_;have:b≠bm:=by rintro rfl;exact P2 bz
  simp only[Heap.set,this,if_false];exact ho
 ·exact h2.aG qz (jG B2 d0)
 ·exact h3.aG (jG B3 d1)
 ·intro b bz;have:b∈jf\/b∈bm::(B1++B2++B3):=by simp at bz ⊢;grind
  rcases this with hx|hx
  ·exact g4 b hx
  ·exact gA b hx
theorem gz.z6 {h0 h:Heap} {bm:Nat} {pre post:List Value} {M:bZ} {B:List Nat} (hM:gz h0 h bm pre post M B) (hl:M.ag.length<=1000) :
  ∃ t p c vo vs,h bm=some (.cells (pre++aB vo (.slice p M.ag.length c) vs M++post).toArray t (0,0)) /\
   ∀ {bytes:Nat} {zero:List Value} {el:TypeId} {m':Nat} (a:bU) (Bv:List Nat) (y:List Value) (K:Value->Heap->Prop),oY h y a Bv->Nd Bv->(∀ b∈Bv,b ∉ bm::B/\h0 b=none)->m'=1->y.length=4->dG y=true->zero.length=4->bytes<=1000 ->
    (∀ p' c' iN,iN bm=h bm->(∀ b,b ∉ B->b ∉ Bv->h b≠none->iN b=h b)->h0.le iN->(∃ B',gz h0 (iN.set bm (.cells (pre++aB vo (.slice p' (M.ag.length+1) c') vs M++post).toArray t (0,0))) bm pre post {M with ag:=M.ag++[a]} B' /\
     Ev h (iN.set bm (.cells (pre++aB vo (.slice p' (M.ag.length+1) c') vs M++post).toArray t (0,0))) ((bm::B)++Bv) (bm::B'))->K (.slice p' (M.ag.length+1) c') iN)->App bytes 4 zero el h p M.ag.length c m' y K:=by
 have nd:=hM.nd;have fI:=hM.in;have hle:=hM.le;have gA:=hM.fr;obtain⟨t,vo,vf,vs,B1,B2,B3,U,h1,h2,h3,rfl,eF⟩:=hM.whole;obtain⟨p,c,rfl,hc⟩:=h2.form;refine⟨t,p,c,vo,vs,U,?_⟩;intro bytes zero el m' a Bv y K k1 k2 k3 k4 k5 k6 k7 k8 k9;have hv:∀ b∈Bv,b ∉ B1/\b ∉ B2/\b ∉ B3/\b≠bm:=by
  intro b bz;have:=k3 b bz;simp at this;grind
 have hB:∀ b∈B2,b ∉ B1/\b ∉ B3/\b≠bm:=by
  intro b bz;have hp:=List.count_pos_iff.2 bz;have hn:=nd b;simp only[List.count_append,List.count_cons]at hn;refine⟨λhx=>?_,λhx=>?_,?_⟩
  ·have:=List.count_pos_iff.2 hx;omega
  ·have:=List.count_pos_iff.2 hx;omega
  ·rintro rfl;simp at hn;omega
 have iq:bm ∉ B1++B2++B3:=by
  intro hx;have:=List.count_pos_iff.2 hx;have hn:=nd bm;simp only[List.count_cons,beq_self_eq_true,if_true]at hn;omega
 have EL:Nd (B1++B2++B3):=nd.less λa=>by simp only[List.count_cons];omega
 have EM:Nd (B2++Bv):=by
  have:=Nd.swap (A:=B2) (X:=B1++B3) (X':=Bv) (EL.perm λa=>by simp only[List.count_append];omega) k2 (λb bz=>.inr (by have:=hv b bz;grind));exact this
 refine nU qz VT (h0:=h0) h2 k1 EM (λb bz=>?_) hle k4 k5 k6 k7 (by have:=Nat.mul_le_mul (show M.ag.length+1<=1001 by omega) k8;omega) (by omega) ?_
 ·rcases List.mem_append.1 bz with bz|bz
  ·exact gA b (by simp[bz])
  ·exact(k3 b bz).2
 intro v' iN gO g1 g2 g3 g4 g5;obtain⟨p',c',rfl,_⟩:=g2.form;have hlen:(M.ag++[a]).length=M.ag.length+1:=by simp
 rw[hlen]at g2 ⊢;have same:∀ b,b ∉ B2->b ∉ Bv->h b≠none->iN b=h b:=λb n1 n2 n3=>g5.ic b n3 (by simp[n1,n2]);have e1:iN bm=h bm:=same bm (λhx=>iq (by simp[hx])) (λhx=>(hv _ hx).2.2.2 rfl) (by rw[U];simp);refine k9 p' c' iN e1 (λb n1 n2 n3=>same b (λhx=>n1 (by simp[hx])) n2 n3) g1 ?_;have P2:bm ∉ gO:=by
  intro hx;rcases g5.new bm hx with hy|hy
  ·rcases List.mem_append.1 hy with hy|hy
   ·exact iq (by simp[hy])
   ·exact(hv _ hy).2.2.2 rfl
  ·rw[U]at hy;cases hy
 have jG:∀ C:List Nat,(∀ b∈C,b≠bm/\b ∉ B2/\b ∉ Bv)->cC h (iN.set bm (.cells (pre++aB vo (.slice p' (M.ag.length+1) c') vs M++post).toArray t (0,0))) C:=by
  intro C hC b bz o ho;have:=hC b bz;simp only[Heap.set,this.1,if_false];rw[same b this.2.1 this.2.2 (by rw[ho];simp)];exact ho
 have d0:∀ b∈B1,b≠bm/\b ∉ B2/\b ∉ Bv:=λb bz=>⟨λhx=>iq (by simp[<-hx,bz]),λhx=>by have:=hB b hx;grind,λhx=>by have:=hv b hx;grind⟩
 have d1:∀ b∈B3,b≠bm/\b ∉ B2/\b ∉ Bv:=λb bz=>⟨λhx=>iq (by simp[<-hx,bz]),λhx=>by have:=hB b hx;grind,λhx=>by have:=hv b hx;grind⟩
 have DX:Ev h (iN.set bm (.cells (pre++aB vo (.slice p' (M.ag.length+1) c') vs M++post).toArray t (0,0))) ((bm::(B1++B2++B3))++Bv) (bm::(B1++gO++B3)):=by
  refine⟨λb bz hn=>?_,λb bz=>?_⟩
  ·have:b≠bm:=λhx=>hn (by simp[hx]);simp only[Heap.set,this,if_false];exact same b (λhx=>hn (by simp[hx])) (λhx=>hn (by simp[hx])) bz
  ·have:b∈gO\/b∈bm::(B1++B3):=by simp at bz ⊢;grind
   rcases this with hx|hx
   ·exact(g5.new b hx).imp (λhy=>by simp at hy ⊢;grind) id
   ·exact .inl (by simp at hx ⊢;grind)
 have EN:Nd (bm::(B1++gO++B3)):=by
  have:=Nd.swap (A:=bm::(B1++B3)) (X:=B2) (X':=gO) (nd.perm λa=>by simp only[List.count_append,List.count_cons];omega) g3 (λb bz=>?_)
  ·exact this.perm λa=>by simp only[List.count_append,List.count_cons];omega
  ·rcases g5.new b bz with hx|hx
   ·rcases List.mem_append.1 hx with hx|hx
    ·exact .inl hx
    ·have:=hv b hx;exact .inr (by simp;grind)
   ·refine .inr λhy=>?_;obtain⟨o,ho⟩:=fI b (by simp at hy ⊢;grind);rw[hx]at ho;cases ho
 refine⟨B1++gO++B3,⟨Heap.aM g1 (gA bm (by simp)),⟨aB vo (.slice p' (M.ag.length+1) c') vs M,t,by simp[Heap.set],vo,_,vs,B1,gO,B3,rfl,?_,?_,?_,rfl⟩,EN,?_⟩,DX⟩
 ·exact h1.aG jD (jG B1 d0)
 ·refine g2.aG qz λb bz o ho=>?_;have:b≠bm:=by rintro rfl;exact P2 bz
  simp only[Heap.set,this,if_false];exact ho
 ·exact h3.aG (jG B3 d1)
 ·intro b bz;have:b∈gO\/b∈bm::(B1++B2++B3):=by simp at bz ⊢;grind
  rcases this with hx|hx
  ·exact g4 b hx
  ·exact gA b hx
theorem gz.OA {h0 h:Heap} {bm:Nat} {pre post:List Value} {M:bZ} {B:List Nat} (hM:gz h0 h bm pre post M B) (hl:M.said.length<=1000) :
  ∃ t p c vo vf,h bm=some (.cells (pre++aB vo vf (.slice p M.said.length c) M++post).toArray t (0,0)) /\
   ∀ {bytes:Nat} {zero:List Value} {el:TypeId} {m':Nat} (a:Int) (Bv:List Nat) (y:List Value) (K:Value->Heap->Prop),A2 h y a Bv->Nd Bv->(∀ b∈Bv,b ∉ bm::B/\h0 b=none)->m'=1->y.length=1->dG y=true->zero.length=1->bytes<=1000 ->
    (∀ p' c' iN,iN bm=h bm->(∀ b,b ∉ B->b ∉ Bv->h b≠none->iN b=h b)->h0.le iN->(∃ B',gz h0 (iN.set bm (.cells (pre++aB vo vf (.slice p' (M.said.length+1) c') M++post).toArray t (0,0))) bm pre post {M with said:=M.said++[a]} B' /\
     Ev h (iN.set bm (.cells (pre++aB vo vf (.slice p' (M.said.length+1) c') M++post).toArray t (0,0))) ((bm::B)++Bv) (bm::B'))->K (.slice p' (M.said.length+1) c') iN)->App bytes 1 zero el h p M.said.length c m' y K:=by
 have nd:=hM.nd;have fI:=hM.in;have hle:=hM.le;have gA:=hM.fr;obtain⟨t,vo,vf,vs,B1,B2,B3,U,h1,h2,h3,rfl,eF⟩:=hM.whole;have h3:eE A2 1 h vs M.said B3:=Jz h3;obtain⟨p,c,rfl,hc⟩:=h3.form;refine⟨t,p,c,vo,vf,U,?_⟩;intro bytes zero el m' a Bv y K k1 k2 k3 k4 k5 k6 k7 k8 k9;have hv:∀ b∈Bv,b ∉ B1/\b ∉ B2/\b ∉ B3/\b≠bm:=by
  intro b bz;have:=k3 b bz;simp at this;grind
 have hB:∀ b∈B3,b ∉ B1/\b ∉ B2/\b≠bm:=by
  intro b bz;have hp:=List.count_pos_iff.2 bz;have hn:=nd b;simp only[List.count_append,List.count_cons]at hn;refine⟨λhx=>?_,λhx=>?_,?_⟩
  ·have:=List.count_pos_iff.2 hx;omega
  ·have:=List.count_pos_iff.2 hx;omega
  ·rintro rfl;simp at hn;omega
 have iq:bm ∉ B1++B2++B3:=by
  intro hx;have:=List.count_pos_iff.2 hx;have hn:=nd bm;simp only[List.count_cons,beq_self_eq_true,if_true]at hn;omega
 have EL:Nd (B1++B2++B3):=nd.less λa=>by simp only[List.count_cons];omega
 have EM:Nd (B3++Bv):=by
  have:=Nd.swap (A:=B3) (X:=B1++B2) (X':=Bv) (EL.perm λa=>by simp only[List.count_append];omega) k2 (λb bz=>.inr (by have:=hv b bz;grind));exact this
 refine nU Oy inN (h0:=h0) h3 k1 EM (λb bz=>?_) hle k4 k5 k6 k7 (by have:=Nat.mul_le_mul (show M.said.length+1<=1001 by omega) k8;omega) (by omega) ?_
 ·rcases List.mem_append.1 bz with bz|bz
  ·exact gA b (by simp[bz])
  ·exact(k3 b bz).2
 intro v' iN EH g1 g2 g3 g4 g5;obtain⟨p',c',rfl,_⟩:=g2.form;have hlen:(M.said++[a]).length=M.said.length+1:=by simp
 rw[hlen]at g2 ⊢;have same:∀ b,b ∉ B3->b ∉ Bv->h b≠none->iN b=h b:=λb n1 n2 n3=>g5.ic b n3 (by simp[n1,n2]);have e1:iN bm=h bm:=same bm (λhx=>iq (by simp[hx])) (λhx=>(hv _ hx).2.2.2 rfl) (by rw[U];simp);refine k9 p' c' iN e1 (λb n1 n2 n3=>same b (λhx=>n1 (by simp[hx])) n2 n3) g1 ?_;have P2:bm ∉ EH:=by
  intro hx;rcases g5.new bm hx with hy|hy
  ·rcases List.mem_append.1 hy with hy|hy
   ·exact iq (by simp[hy])
   ·exact(hv _ hy).2.2.2 rfl
  ·rw[U]at hy;cases hy
 have jG:∀ C:List Nat,(∀ b∈C,b≠bm/\b ∉ B3/\b ∉ Bv)->cC h (iN.set bm (.cells (pre++aB vo vf (.slice p' (M.said.length+1) c') M++post).toArray t (0,0))) C:=by
  intro C hC b bz o ho;have:=hC b bz;simp only[Heap.set,this.1,if_false];rw[same b this.2.1 this.2.2 (by rw[ho];simp)];exact ho
 have d0:∀ b∈B1,b≠bm/\b ∉ B3/\b ∉ Bv:=λb bz=>⟨λhx=>iq (by simp[<-hx,bz]),λhx=>by have:=hB b hx;grind,λhx=>by have:=hv b hx;grind⟩
 have d1:∀ b∈B2,b≠bm/\b ∉ B3/\b ∉ Bv:=λb bz=>⟨λhx=>iq (by simp[<-hx,bz]),λhx=>by have:=hB b hx;grind,λhx=>by have:=hv b hx;grind⟩
 have DX:Ev h (iN.set bm (.cells (pre++aB vo vf (.slice p' (M.said.length+1) c') M++post).toArray t (0,0))) ((bm::(B1++B2++B3))++Bv) (bm::(B1++B2++EH)):=by
  refine⟨λb bz hn=>?_,λb bz=>?_⟩
  ·have:b≠bm:=λhx=>hn (by simp[hx]);simp only[Heap.set,this,if_false];exact same b (λhx=>hn (by simp[hx])) (λhx=>hn (by simp[hx])) bz
  ·have:b∈EH\/b∈bm::(B1++B2):=by simp at bz ⊢;grind
   rcases this with hx|hx
   ·exact(g5.new b hx).imp (λhy=>by simp at hy ⊢;grind) id
   ·exact .inl (by simp at hx ⊢;grind)
 have EN:Nd (bm::(B1++B2++EH)):=by
  have:=Nd.swap (A:=bm::(B1++B2)) (X:=B3) (X':=EH) (nd.perm λa=>by simp only[List.count_append,List.count_cons];omega) g3 (λb bz=>?_)
  ·exact this.perm λa=>by simp only[List.count_append,List.count_cons];omega
  ·rcases g5.new b bz with hx|hx
   ·rcases List.mem_append.1 hx with hx|hx
    ·exact .inl hx
    ·have:=hv b hx;exact .inr (by simp;grind)
   ·refine .inr λhy=>?_;obtain⟨o,ho⟩:=fI b (by simp at hy ⊢;grind);rw[hx]at ho;cases ho
 refine⟨B1++B2++EH,⟨Heap.aM g1 (gA bm (by simp)),⟨aB vo vf (.slice p' (M.said.length+1) c') M,t,by simp[Heap.set],vo,vf,_,B1,B2,EH,rfl,?_,?_,?_,rfl⟩,EN,?_⟩,DX⟩
 ·exact h1.aG jD (jG B1 d0)
 ·exact h2.aG qz (jG B2 d1)
 ·refine JA (?_);refine g2.aG Oy λb bz o ho=>?_;have:b≠bm:=by rintro rfl;exact P2 bz
  simp only[Heap.set,this,if_false];exact ho
 ·intro b bz;have:b∈EH\/b∈bm::(B1++B2++B3):=by simp at bz ⊢;grind
  rcases this with hx|hx
  ·exact g4 b hx
  ·exact gA b hx
theorem gz.OB {h0 h:Heap} {bm:Nat} {pre post:List Value} {M M':bZ} {B B':List Nat} {t:TypeId} {mc:List Value} (hM:gz h0 h bm pre post M B) (ho:gJ h mc M' B') (hc:∀ a,B'.count a<=B.count a) :
  gz h0 (h.set bm (.cells (pre++mc++post).toArray t (0,0))) bm pre post M' B'/\Ev h (h.set bm (.cells (pre++mc++post).toArray t (0,0))) (bm::B) (bm::B'):=by
 have dy:∀ b,b∈bm::B'->b∈bm::B:=by
  intro b U;have:=List.count_pos_iff.2 U;refine List.count_pos_iff.1 ?_;have:=hc b;simp only[List.count_cons]at *;omega
 have sH:bm ∉ B':=by
  intro hx;have h1:=List.count_pos_iff.2 hx;have h2:=hc bm;have h3:=hM.nd bm;simp only[List.count_cons,beq_self_eq_true,if_true]at h3;omega
 refine⟨⟨Heap.aM hM.le (hM.fr bm (by simp)),⟨mc,t,cZ _ _ _,ho.aG λb U o ho=>?_⟩,hM.nd.less λa=>by have:=hc a;simp only[List.count_cons];omega,λb U=>hM.fr b (dy b U)⟩,⟨λb U hn=>?_,λb U=>.inl (dy b U)⟩⟩
 ·have:b≠bm:=by rintro rfl;exact sH U
  simp only[Heap.set,this,if_false];exact ho
 ·have:b≠bm:=λhx=>hn (by simp[hx]);simp only[Heap.set,this,if_false]
theorem gz.MM {h0 h:Heap} {bm:Nat} {pre post:List Value} {M:bZ} {B:List Nat} {fs:List bU} {f:bU} (hM:gz h0 h bm pre post M B) (hf:M.ag=fs++[f]) :
  ∃ t p c vo vs,h bm=some (.cells (pre++aB vo (.slice p (fs.length+1) c) vs M++post).toArray t (0,0))/\fs.length+1<=c /\
   ∃ B',gz h0 (h.set bm (.cells (pre++aB vo (.slice p fs.length c) vs M++post).toArray t (0,0))) bm pre post {M with ag:=fs} B'/\Ev h (h.set bm (.cells (pre++aB vo (.slice p fs.length c) vs M++post).toArray t (0,0))) (bm::B) (bm::B'):=by
 obtain⟨t,vo,vf,vs,B1,B2,B3,U,h1,h2,h3,rfl,eF⟩:=hM.whole;rw[hf]at h2;obtain⟨p,c,rfl,hc⟩:=h2.form;obtain⟨hn,gO,iN,iK⟩:=h2.pop;have hlen:(fs++[f]).length=fs.length+1:=by simp
 rw[hlen]at U hc;have jO:=hM.OB (M':={M with ag:=fs}) (mc:=aB vo (.slice p fs.length c) vs M) (t:=t) (B':=B1++gO++B3) ⟨vo,_,vs,B1,gO,B3,rfl,h1,iN,h3,rfl⟩ (λa=>by have:=iK a;simp only[List.count_append];omega);exact⟨t,p,c,vo,vs,U,hc,_,jO⟩
theorem gz.ints {h0 h:Heap} {bm:Nat} {pre post:List Value} {M:bZ} {B:List Nat} (hM:gz h0 h bm pre post M B) :
  ∃ t vo vf vs,h bm=some (.cells (pre++aB vo vf vs M++post).toArray t (0,0))/\(∃ p c,vo=.slice p M.objs.length c)/\(∃ p c,vf=.slice p M.ag.length c)/\(∃ p c,vs=.slice p M.said.length c) /\
   ∀ M':bZ,M'.objs=M.objs->M'.ag=M.ag->M'.said=M.said ->
    gz h0 (h.set bm (.cells (pre++aB vo vf vs M'++post).toArray t (0,0))) bm pre post M' B/\Ev h (h.set bm (.cells (pre++aB vo vf vs M'++post).toArray t (0,0))) (bm::B) (bm::B):=by
 obtain⟨t,vo,vf,vs,B1,B2,B3,U,h1,h2,h3,rfl,eF⟩:=hM.whole;obtain⟨ps,cs,e3,_⟩:=h3.form;refine⟨t,vo,vf,vs,U,?_,?_,⟨ps,cs,by rw[e3];simp⟩,λM' k1 k2 k3=>?_⟩
 ·obtain⟨p,c,e,_⟩:=h1.form;exact⟨p,c,e⟩
 ·obtain⟨p,c,e,_⟩:=h2.form;exact⟨p,c,e⟩
 ·exact hM.OB (mc:=aB vo vf vs M') ⟨vo,vf,vs,B1,B2,B3,rfl,by rw[k1];exact h1,by rw[k2];exact h2,by rw[k3];exact h3,rfl⟩ (λa=>Nat.le_refl _)
theorem uh (h0 h:Heap) (bm:Nat) (us:List Value) (u:aU) (fs:List bU) (f:bU) (M:bZ) (B:List Nat) (hM:gz h0 h bm [] [] M B) (hu:dL h0 us u) (hf:M.ag=fs++[f]) (hm:0<=f.ah/\f.ah < u.methods.length) (hl:M.ag.length<=1000) :
  bI prog 141 [.agg ⟨us⟩,.pointer (some ⟨bm,0,none⟩)] h λv h'=>h.le h'/\∃ bs bf off,v=.pointer (some ⟨bs,0,none⟩)/\h bs=none/\kq h0 h' bs bm bf off u (br u f.ah) fs f M B:=by
 have CT:=hu.le hM.le;obtain⟨vo,vs,bf,c,tm,t,q,r,v1,v2,Bo,B1,B2,U,jS,hq,o1,o2,nd,fI,dy,eF⟩:=hM.top hf;obtain⟨p,cc,q',d,rfl,hcs,fM,jN,hl2⟩:=CT.form;have OC:M.ag.length=fs.length+1:=by rw[hf];simp
 have r1:rd h bm 1=some (.slice (some ⟨bf,0,none⟩) (fs.length+1) c):=bG U (i:=1) (by simp) rfl;have r2:rd h bf (fs.length*4)=some (.int .i64 f.ah):=bG jS (i:=0) (by omega) rfl;have hi:f.ah.toNat < u.methods.length:=by omega
 have e0:=(hu.form)
 obtain⟨p',cc',OD,d',he,_,aaq,_⟩:=e0;simp only[List.cons.injEq,Value.slice.injEq,true_and,and_true]at he;obtain⟨⟨rfl,rfl⟩,rfl,rfl⟩:=he;have e:=aaq.get hi;obtain⟨bb,off,ms,vw,e1,e2⟩:=e;have mY:br u f.ah=u.methods[f.ah.toNat]:=gv hi (by omega);have Jm:=e2;obtain⟨p1,c1,p2,c2,p3,c3,p4,c4,e3,_⟩:=e2.form;subst e3;have DZ:=bK hM.le e1;have zz:0+(((fs.length+1:Nat):Int)-1).toNat*4=fs.length*4:=by omega
 have yc:rd h bf (0+(((fs.length+1:Nat):Int)-1).toNat*4)=some (.int .i64 f.ah):=by rw[zz];exact r2
 refine bS au func141 Tj Tk rfl ?_;conv=>whnf
 repeat' ((first|refine ld r1 ?_|refine ld yc ?_|refine aO vw ?_|refine dK DZ ?_|refine aq ?_|refine aj ?_|refine ptr ?_)<;>conv=>whnf)
 refine dI (Yp bf (0+(((fs.length+1:Nat):Int)-1).toNat*4) bm [.int .i64 u.methods[f.ah.toNat].cls,.int .i64 u.methods[f.ah.toNat].eL,.slice p1 u.methods[f.ah.toNat].args.length c1,.int .i64 u.methods[f.ah.toNat].out,.int .i64 u.methods[f.ah.toNat].locals,.slice p2 u.methods[f.ah.toNat].code.length c2,.slice p3 u.methods[f.ah.toNat].aL.length c3,.slice p4 u.methods[f.ah.toNat].catches.length c4]
  [.slice p u.J.length cc,.slice q' u.methods.length d]) rfl (λbs h1 zA hh l1 hg=>?_)
 conv=>whnf
 have A3:=hM.mono l1;refine⟨l1,bs,bf,_,rfl,zA,⟨A3,hf,⟨zz,c,aX l1 r1⟩,⟨_,_,_,hg,hu,by rw[mY];exact Jm⟩,λhx=>?_⟩⟩;obtain⟨o,ho⟩:=hM.in bs hx;rw[zA]at ho;cases ho
theorem gz.lens {h0 h:Heap} {bm:Nat} {pre post:List Value} {M:bZ} {B:List Nat} {fs:List bU} {f:bU} (hM:gz h0 h bm pre post M B) (hf:M.ag=fs++[f]) :
  ∃ tm vo vs bf c t q r v1 v2 B1 B2,h bm=some (.cells (pre++aB vo (.slice (some ⟨bf,0,none⟩) (fs.length+1) c) vs M++post).toArray tm (0,0)) /\
   h bf=some (.cells (q++[.int .i64 f.ah,.int .i64 f.pc,v1,v2]++r).toArray t (0,0))/\q.length=fs.length*4/\cq h v1 f.locals B1/\cq h v2 f.stack B2/\Nd (B1++B2)/\(∀ b∈bf::(B1++B2),h0 b=none/\b∈B) /\
   (∀ b,b∈B1++B2->b≠bf/\b≠bm)/\bf≠bm /\
   ∀ h' f' zY tB jf gO,h' bf=some (.cells (q++[.int .i64 f'.ah,.int .i64 f'.pc,zY,tB]++r).toArray t (0,0))->(∀ b,b ∉ bf::(B1++B2)->h b≠none->h' b=h b)->cq h' zY f'.locals jf->cq h' tB f'.stack gO ->
    (∀ b∈jf++gO,b∈B1++B2\/h b=none)->Nd (jf++gO)->∃ B',gz h0 h' bm pre post {M with ag:=fs++[f']} B'/\Ev h h' (bm::B) (bm::B'):=by
 obtain⟨vo,vs,bf,c,tm,t,q,r,v1,v2,Bo,B1,B2,U,jS,hq,o1,o2,nd,fI,dy,eF⟩:=hM.top hf;have iK:∀ a,(bm::bf::(Bo++B1++B2)).count a<=1:=nd;have zZ:∀ b,b∈B1++B2->b≠bf/\b≠bm/\b ∉ Bo:=by
  intro b bz;have hp:=List.count_pos_iff.2 bz;have hc:=iK b;simp only[List.count_append,List.count_cons]at hp hc;refine⟨?_,?_,?_⟩
  ·rintro rfl;simp at hc;omega
  ·rintro rfl;simp at hc;omega
  ·intro hx;have:=List.count_pos_iff.2 hx;omega
 have PY:bf≠bm:=by
  rintro rfl;have hc:=iK bf;simp[List.count_cons]at hc
 have hmB:∀ b,b≠bm->b∈bm::bf::(Bo++B1++B2)->b∈B:=by
  intro b cD bz;have:=(dy b).2 bz;simpa [cD]using this
 refine⟨tm,vo,vs,bf,c,t,q,r,v1,v2,B1,B2,U,jS,hq,o1,o2,?_,?_,λb bz=>⟨(zZ b bz).1,(zZ b bz).2.1⟩,PY,?_⟩
 ·exact nd.less λa=>by simp only[List.count_append,List.count_cons];omega
 ·intro b bz;have hx:b∈bm::bf::(Bo++B1++B2):=by simp at bz ⊢;grind
  refine⟨hM.fr b ((dy b).2 hx),hmB b ?_ hx⟩;rcases List.mem_cons.1 bz with rfl|bz
  ·exact PY
  ·exact(zZ b bz).2.1
 intro h' f' zY tB jf gO k1 k2 k3 k4 k5 k6;have iq:h' bm=h bm:=k2 bm (by simp only[List.mem_cons,not_or];exact⟨λhx=>PY hx.symm,λhx=>(zZ _ hx).2.1 rfl⟩) (by rw[U];simp);have mS:∀ b∈Bo,b ∉ bf::(B1++B2):=by
  intro b bz hx;rcases List.mem_cons.1 hx with rfl|hx
  ·have hc:=iK b;have:=List.count_pos_iff.2 bz;simp only[List.count_append,List.count_cons]at hc;simp at hc;omega
  ·exact(zZ b hx).2.2 bz
 have tZ:cC h h' Bo:=λb bz o ho=>by rw[k2 b (mS b bz) (by rw[ho];simp)];exact ho
 have hnd:Nd (bm::bf::(Bo++jf++gO)):=by
  have:=Nd.swap (A:=bm::bf::Bo) (X:=B1++B2) (X':=jf++gO) (nd.perm λa=>by simp only[List.count_append,List.count_cons];omega) k6 (λb bz=>?_)
  ·exact this.perm λa=>by simp only[List.count_append,List.count_cons];omega
  ·rcases k5 b bz with hx|hx
   ·exact .inl hx
   ·refine .inr λhy=>?_;obtain⟨o,ho⟩:=fI b (by simp at hy ⊢;grind);rw[hx]at ho;cases ho
 have DX:Ev h h' (bm::B) (bm::bf::(Bo++jf++gO)):=by
  refine⟨λb bz hn=>?_,λb bz=>?_⟩
  ·refine k2 b (λhx=>hn ((dy b).2 (by simp at hx ⊢;grind))) bz
  ·have:b∈jf++gO\/b∈bm::bf::Bo:=by simp at bz ⊢;grind
   rcases this with hx|hx
   ·rcases k5 b hx with hy|hy
    ·exact .inl ((dy b).2 (by simp at hy ⊢;grind))
    ·exact .inr hy
   ·exact .inl ((dy b).2 (by simp at hx ⊢;grind))
 exact eF h' f' zY tB jf gO iq k1 k3 k4 tZ hnd DX
theorem xl {h:Heap} {b off:Nat} {pre x post:List Value} {v:Value} {t:TypeId} {K:Heap->Prop} (U:h b=some (.cells (pre++x++post).toArray t (0,0))) {i:Nat} (hn:off=pre.length+i) (hi:i < x.length)
  (hk:K (h.set b (.cells (pre++x.set i v++post).toArray t (0,0)))):St h b off [v] K:=by
 refine st U (by simp;omega) ?_;rw[nu hn hi];exact hk
def gW (u:aU) (to:Int) (aS:List Vl):bU:=⟨to,0,aS++List.replicate ((br u to).locals.toNat-aS.length) cJ,[]⟩
def jI (u:aU) (to:Int) (aS:List Vl) (M:bZ):Except Int bZ:=if 4<=M.ag.length then .error 6 else .ok {M with ag:=M.ag++[gW u to aS]}
def pq (h0 h:Heap) (bm:Nat) (B:List Nat) (r:Except Int bZ):Out->Heap->Prop:=λo h'=>match o with
 | .ret _=>∃ M',r=.ok M'/\∃ B',gz h0 h' bm [] [] M' B'/\Ev h h' (bm::B) (bm::B')
 | .lE c=>∃ k,r=.error k/\c=jE k/\Pn h0 bm h'
theorem yh (n:Nat):(List.replicate n cJ).map bR=List.replicate n [Value.bool false,.int .i64 0]:=by rw[List.map_replicate];rfl
theorem C0 (h0 h:Heap) (bs bm bf off:Nat) (u:aU) (m:cB) (fs:List bU) (f:bU) (M:bZ) (B:List Nat) (to:Int) (aS:List Vl) (vt:Value) (Bt:List Nat) (hS:kq h0 h bs bm bf off u m fs f M B)
  (ot:cq h vt aS Bt) (jx:∀ b∈Bt,b ∉ bm::B/\b≠bs) (Il:0<=to/\to < u.methods.length) (nr:(aS.length:Int)<=(br u to).locals/\(br u to).locals<=3) :
  cH prog 196 [.pointer (some ⟨bs,0,none⟩),.int .i64 to,vt] h (pq h0 h bm B (jI u to aS M)):=by
 obtain⟨pt,ct,rfl,_⟩:=ot.form;have iS:=dY bR aS;obtain⟨r1,r2,⟨c0,r3⟩,p,cc,q,d,hu,r9,gV,_⟩:=hS.mp;have OC:M.ag.length=fs.length+1:=by rw[hS.ag];simp
 have hi:to.toNat < u.methods.length:=by omega
 obtain⟨p',c',q',d',he,_,fM,_⟩:=hu.form;simp only[List.cons.injEq,Value.slice.injEq,true_and,and_true]at he;obtain⟨⟨rfl,rfl⟩,rfl,rfl⟩:=he;have e:=fM.get hi;obtain⟨bb,oo,ms,vw,e1,e2⟩:=e;have mY:br u to=u.methods[to.toNat]:=gv hi (by omega);obtain⟨p1,c1,p2,c2,p3,c3,p4,c4,e3,_⟩:=e2.form;subst e3;have r4:rd h bb (oo+to.toNat*8+4)=some (.int .i64 (br u to).locals):=by rw[mY];exact aX hS.ma.le (aK e1 (i:=4) rfl)
 refine outs au func196 UK UL rfl ?_;conv=>whnf
 repeat' ((first|refine ld r2 ?_|refine ld r3 ?_|refine aq ?_|refine aj ?_|refine ptr ?_)<;>conv=>whnf)
 apply ax<;>intro g;all_goals conv=>whnf
 ·exact⟨6,by rw[jI,if_pos (by omega)],rfl,hS.ma.pn⟩
 repeat' ((first|refine ld gV ?_|refine aO vw ?_|refine ld r4 ?_|refine aq ?_|refine aj ?_|refine ptr ?_)<;>conv=>whnf)
 refine ob ⟨rfl,by omega,by show(_:Int)*((16:Nat):Int)<=_;omega,by omega⟩ ?_;conv=>whnf
 obtain⟨n,hn⟩:∃ n,n=(br u to).locals.toNat:=⟨_,rfl⟩
 rw[<-hn];have htn:aS.length<=n:=by omega
 refine dI ((List.replicate n cJ).map bR).flatten (by rw[yh]) (λb h1 U hh l1 hg=>?_);conv=>whnf
 have fI:(pt=none/\(aS.map bR).flatten=[])\/∃ b2 o2,pt=some ⟨b2,o2,none⟩/\eG h1 b2 o2 (Nat.min (aS.map bR).length n*2)=some (aS.map bR).flatten:=by
  have P1:Nat.min (aS.map bR).length n=aS.length:=by rw[List.length_map];exact Nat.min_eq_left htn
  have sP:=bQ (sz:=2) (xs:=aS.map bR) (by simp[bR]);rw[P1];obtain⟨_,⟨he,hx,_⟩|⟨b2,c2,rest,t,he,_,eX,_,_⟩⟩:=ot
  ·simp only[Value.slice.injEq]at he;exact .inl ⟨he.1,by rw[hx];rfl⟩
  ·simp only[Value.slice.injEq]at he;refine .inr ⟨b2,0,he.1,?_⟩;rw[List.length_map]at sP;rw[bP (l1 _ _ eX) _ _ (by simp only[List.length_append];omega),List.drop_zero,<-sP,List.take_left]
 have qh:ep ((List.replicate n cJ).map bR).flatten 0 (aS.map bR).flatten=((aS++List.replicate (n-aS.length) cJ).map bR).flatten:=by
  have sP:=bQ (sz:=2) (xs:=aS.map bR) (by simp[bR]);have hfz:=bQ (sz:=2) (xs:=(List.replicate n cJ).map bR) (by simp[bR]);rw[List.length_map]at sP hfz;have:=gT (aS.map bR).flatten [] ((List.replicate n cJ).map bR).flatten (by rw[sP,hfz];simp;omega);simp only[List.nil_append,List.length_nil]at this;rw[this,List.map_append,List.flatten_append];congr 1
  have BW:List.replicate n cJ=List.replicate aS.length cJ++List.replicate (n-aS.length) cJ:=by rw[List.replicate_append_replicate];congr 1;omega
  conv=>lhs;rw[BW,List.map_append,List.flatten_append]
  have hfy:=bQ (sz:=2) (xs:=(List.replicate aS.length cJ).map bR) (by simp[bR]);rw[List.length_map,List.length_replicate]at hfy;rw[sP,<-hfy,List.drop_left]
 refine Es (vs:=(aS.map bR).flatten) au rfl rfl rfl rfl rfl fI hg ?_ (jh aS) ?_
 ·have sP:=bQ (sz:=2) (xs:=aS.map bR) (by simp[bR]);have hfz:=bQ (sz:=2) (xs:=(List.replicate n cJ).map bR) (by simp[bR]);rw[List.length_map]at sP hfz;rw[sP,hfz];simp;omega
 rw[qh];obtain⟨h2,fU⟩:∃ h2,h2=h1.set b (.cells ((aS++List.replicate (n-aS.length) cJ).map bR).flatten.toArray 33 (0,0)):=⟨_,rfl⟩
 rw[<-fU];have V5:h2=h.set b (.cells ((aS++List.replicate (n-aS.length) cJ).map bR).flatten.toArray 33 (0,0)):=by rw[fU,hh,set_set]
 have l2:h.le h2:=by rw[V5];exact Heap.aM (Heap.le_refl h) U
 have MN:cq h2 (.slice (some ⟨b,0,none⟩) n n) (aS++List.replicate (n-aS.length) cJ) [b] :=
  fR (t:=33) (λx hx=>by obtain⟨a,_,rfl⟩:=List.mem_map.1 hx;rfl) (by simp;omega) (by rw[V5];exact cZ _ _ _)
 conv=>whnf
 have zi:=hS.ma.mono l2;obtain⟨t,po,co,vo,vs,iq,grow⟩:=zi.z6 (by omega);have yc:=aX l2 r2;have C3:rd h2 bm 1=some (.slice po M.ag.length co):=bG iq (i:=1) (by simp) rfl;have jS:∀ b'∈[b],b' ∉ bm::B/\h0 b'=none:=by
  intro b' bz;rw[List.mem_singleton]at bz;subst bz;refine⟨λhx=>?_,?_⟩
  ·obtain⟨o,ho⟩:=hS.ma.in b' hx;rw[U]at ho;cases ho
  ·cases hh:h0 b' with
   | none=>rfl
   | some o=>rw[hS.ma.le b' o hh]at U;cases U
 have zA:bs≠b:=by
  rintro rfl;unfold rd at r1;rw[U]at r1;cases r1
 have yj:h2 bs≠none:=by
  intro hx;unfold rd at yc;rw[hx]at yc;cases yc
 repeat' ((first|exact trivial|refine ld yc ?_|refine ld C3 ?_|apply And.intro)<;>conv=>whnf)
 all_goals
  refine grow (gW u to aS) [b] _ _ ⟨_,_,[b],[],rfl,?_,⟨by simp[gW],.inl ⟨rfl,by simp[gW],rfl⟩⟩,rfl⟩ MN.nd jS rfl rfl rfl rfl (by simp) ?_
  ·unfold gW;rw[<-hn];exact MN
  rintro p' c' h3 e1 e2 e3 ⟨B',LM,rT⟩;have P6:rd h3 bs 11=some (.pointer (some ⟨bm,0,none⟩)):=by
   unfold rd at yc ⊢;rw[e2 bs (λhx=>hS.out (by simp[hx])) (by simpa using zA) yj];exact yc
  have rU:=e1.trans iq;conv=>whnf
  (try refine ld P6 ?_)
  conv=>whnf
  refine xl rU (i:=1) rfl (by simp[aB]) ?_;conv=>whnf
  exact⟨_,by rw[jI,if_neg (by omega)],B',LM,(Ev.of_le l2 ((bm::B)++[b]) (λx hx=>(List.mem_append.1 hx).imp id (λhx=>by rw[List.mem_singleton.1 hx];exact U))).trans rT⟩
theorem kJ {h:Heap} {b off:Nat} {pre x post:List Value} {v:Value} {t:TypeId} {K:Heap->Prop} (U:h b=some (.cells (pre++x++post).toArray t (0,0))) {i:Nat} (x':List Value) (hn:off=pre.length+i) (hi:i < x.length) (hx:x.set i v=x')
  (hk:∀ h',h'=h.set b (.cells (pre++x'++post).toArray t (0,0))->h' b=some (.cells (pre++x'++post).toArray t (0,0))->K h'):St h b off [v] K:=by
 subst hx;exact xl U hn hi (hk _ rfl (cZ _ _ _))
theorem z7 {h:Heap} {b off:Nat} {cs:List Value} {vs:List Value} {t:TypeId} {K:Heap->Prop} (U:h b=some (.cells cs.toArray t (0,0))) (jt:List Value) (hl:off+vs.length<=cs.length) (hx:ep cs off vs=jt)
  (hk:∀ h',h'=h.set b (.cells jt.toArray t (0,0))->h' b=some (.cells jt.toArray t (0,0))->K h'):St h b off vs K:=by
 subst hx;exact st U hl (hk _ rfl (cZ _ _ _))
def uj (v:Vl) (fs:List bU) (M:bZ):Except Int bZ:=match fs.getLast? with
 | none=>.ok {M with ag:=[],fin:=1,out:=v}
 | some g=>if g.stack.length < 4 then .ok {M with ag:=fs.dropLast++[{g with stack:=g.stack++[v],pc:=g.pc+1}]}else .error 0
theorem z8 (v:Vl) (M:bZ):uj v [] M=.ok {M with ag:=[],fin:=1,out:=v}:=rfl
theorem rF (v:Vl) (gs:List bU) (g:bU) (M:bZ):uj v (gs++[g]) M=if g.stack.length < 4 then .ok {M with ag:=gs++[{g with stack:=g.stack++[v],pc:=g.pc+1}]}else .error 0:=by simp[uj]
theorem P7 (h0 h:Heap) (bs bm bf off:Nat) (u:aU) (m:cB) (fs:List bU) (f:bU) (M:bZ) (B:List Nat) (x:Vl) (hS:kq h0 h bs bm bf off u m fs f M B) (hl:M.ag.length<=1000)
  (sF:∀ g∈fs,(0<=g.ah/\g.ah < u.methods.length)/\0<=g.pc/\g.pc<=1000) :
  cH prog 199 [.pointer (some ⟨bs,0,none⟩),.agg #[.bool x.ref,.int .i64 x.n]] h (pq h0 h bm B (uj x fs M)):=by
 obtain⟨r1,r2,⟨c0,r3⟩,p,cc,q,d,hu,r9,gV,P3,_⟩:=hS.mp;have OC:M.ag.length=fs.length+1:=by rw[hS.ag];simp
 obtain⟨t,pf,c,vo,vs,iq,gG,B1,A3,fD⟩:=hS.ma.MM hS.ag;have C3:rd h bm 1=some (.slice pf (fs.length+1) c):=bG iq (i:=1) (by simp) rfl;have zA:bs≠bm:=λhx=>hS.out (by simp[hx]);refine outs au func199 UQ UR rfl ?_;conv=>whnf
 repeat' ((first|refine ld r2 ?_|refine ld C3 ?_|refine aq ?_|refine aj ?_|refine ptr ?_)<;>conv=>whnf)
 have JB:(((fs.length+1:Nat):Int)-1).toNat=fs.length:=by omega
 refine kJ iq (i:=1) (aB vo (.slice pf fs.length c) vs M) rfl (by simp[aB]) (by rw[JB];rfl) (λh1 gj Yv=>?_);rw[<-gj]at A3 fD;have yc:rd h1 bs 11=some (.pointer (some ⟨bm,0,none⟩)):=by rw[gj,mX zA];exact r2
 have P8:eG h1 bs 9 2=some [.slice p u.J.length cc,.slice q u.methods.length d]:=by
  have e9:rd h1 bs 9=some (.slice p u.J.length cc):=by rw[gj,mX zA];exact r9
  have e10:rd h1 bs 10=some (.slice q u.methods.length d):=by rw[gj,mX zA];exact gV
  simp only[eG,e9,e10]
 have r4:rd h1 bm 1=some (.slice pf fs.length c):=bG Yv (i:=1) rfl rfl;conv=>whnf
 refine ld yc ?_;conv=>whnf
 refine ld r4 ?_;conv=>whnf
 apply ax<;>intro g;all_goals conv=>whnf
 ·have JC:fs=[]:=List.eq_nil_of_length_eq_zero (by omega);subst JC;refine ld yc ?_;conv=>whnf
  refine kJ Yv (i:=4) (aB vo (.slice pf 0 c) vs {M with fin:=1}) rfl (by simp[aB]) rfl (λh2 fU rR=>?_);have P6:rd h2 bs 11=some (.pointer (some ⟨bm,0,none⟩)):=by rw[fU,mX zA];exact yc
  conv=>whnf
  refine ld P6 ?_;conv=>whnf
  refine z7 rR ([]++aB vo (.slice pf 0 c) vs {M with fin:=1,out:=x}++[]) (by simp[aB]) rfl (λh3 jj JD=>?_);obtain⟨t',yd,CY,oW,bz,_,_,_,hint⟩:=A3.ints;rw[Yv]at bz;simp only[Option.some.injEq,Obj.cells.injEq,Array.mk.injEq,List.nil_append,List.append_nil,aB,List.cons.injEq,and_true,true_and,List.toArray]at bz;obtain⟨⟨rfl,rfl,rfl⟩,rfl⟩:=bz;have eZ:=hint {M with ag:=[],fin:=1,out:=x} rfl rfl rfl;obtain⟨zi,gP⟩:=eZ;have C4:h3=h1.set bm (.cells ([]++aB vo (.slice pf ([]:List bU).length c) vs {M with ag:=[],fin:=1,out:=x}++[]).toArray t (0,0)):=by
   rw[jj,fU,set_set];rfl
  rw[<-C4]at zi gP;conv=>whnf
  exact⟨_,z8 x M,_,zi,fD.trans gP⟩
 ·obtain⟨gs,gl,rfl⟩:∃ gs gl,fs=gs++[gl]:=by
   rcases List.eq_nil_or_concat fs with rfl|⟨gs,gl,rfl⟩
   ·simp at g
   ·exact⟨gs,gl,by simp⟩
  have BY:=sF gl (by simp);repeat' ((first|refine dK P8 ?_|refine ld yc ?_|refine aq ?_|refine aj ?_|refine ptr ?_)<;>conv=>whnf)
  refine cE (uh h0 h1 bm _ u gs gl _ B1 A3 hu rfl BY.1 (by simp at OC ⊢;omega)) ?_;rintro v h2 ⟨l2,bs2,bf2,GQ,rfl,yj,kH⟩;refine⟨l2,?_⟩;conv=>whnf
  refine cW (oZ h0 h2 bs2 bm bf2 GQ u _ gs gl _ B1 x kH) ?_ ?_
  ·rintro v h3 ⟨k1,B3,LK,rT⟩;conv=>whnf
   obtain⟨t3,q3,rr3,v13,p3,c3,B23,V6,hq3,o23,abI,s1,s2,eF⟩:=LK.cA;have s3:rd h3 bf2 (GQ+1)=some (.int .i64 gl.pc):=bG V6 (i:=1) (by omega) rfl;obtain⟨e1,e2,e3,B4,hS4,zj⟩:=eF h3 _ B23 (gl.stack++[x]) (gl.pc+1) (λ_ _ _=>rfl) o23 (λb U=>.inl U);refine ld s1 ?_;conv=>whnf
   refine ld s3 ?_;conv=>whnf
   refine aj ?_;conv=>whnf
   refine xl V6 (i:=1) (by omega) (by simp) ?_;conv=>whnf
   refine⟨_,by rw[rF,if_pos k1],B4,?_,fD.trans ((Ev.of_le l2 (bm::B1) (λb U=>.inl U)).trans (rT.trans zj))⟩;exact hS4.ma
  ·rintro c h' ⟨k1,k2,k3⟩;exact⟨0,by rw[rF,if_neg (by omega)],k2,k3⟩
def mh (u:aU) (c pc:Int):List mU->Option mU
 | []=>none
 | k::r=>if (k.lo<=pc/\pc < k.hi)/\up u.J c k.cls=true then some k else mh u c pc r
def vH (u:aU) (c n:Int):List bU->Option (List bU)
 | []=>none
 | f::r=>match mh u c f.pc (br u f.ah).catches with
  | some k=>some ({f with pc:=k.to,stack:=[⟨true,n⟩]}::r)
  | none=>vH u c n r
def cK (u:aU) (n:Int) (M:bZ):bZ:=match vH u (aF M.objs n).cls n M.ag.reverse with
 | some l=>{M with ag:=l.reverse}
 | none=>{M with ag:=[],fin:=2,out:=⟨true,n⟩}
theorem yl (u:aU) (n:Int) (M:bZ) (gs:List bU) (g:bU):cK u n {M with ag:=gs++[g]}=match mh u (aF M.objs n).cls g.pc (br u g.ah).catches with
  | some k=>{M with ag:=gs++[{g with pc:=k.to,stack:=[⟨true,n⟩]}]}
  | none=>cK u n {M with ag:=gs}:=by
 simp only[cK,List.reverse_append,List.reverse_cons,List.reverse_nil,List.nil_append,List.singleton_append,vH];cases mh u (aF M.objs n).cls g.pc (br u g.ah).catches with
 | some k=>simp
 | none=>rfl
theorem mo {u:aU} {c pc:Int}:∀(l:List mU) (i:Nat),(∀ j (hj:j < l.length),j < i->¬((l[j].lo<=pc/\pc < l[j].hi)/\up u.J c l[j].cls=true))->mh u c pc l=mh u c pc (l.drop i)
 | l,0,_=>by simp
 | [],i+1,_=>by simp
 | m::r,i+1,h=>by
  have h0:=h 0 (by simp) (by omega);simp only[List.getElem_cons_zero]at h0;rw[mh,if_neg h0,List.drop_succ_cons];exact mo r i (λj hj jv=>by have:=h (j+1) (by simpa using hj) (by omega);simpa using this)
theorem gz.jy {h0 h:Heap} {bm:Nat} {pre post:List Value} {M:bZ} {B:List Nat} (hM:gz h0 h bm pre post M B):(∃ p c,rd h bm (pre.length+1)=some (.slice p M.ag.length c))/\∃ p c,rd h bm (pre.length+0)=some (.slice p M.objs.length c):=by
 obtain⟨t,vo,vf,vs,U,⟨p,c,e1⟩,⟨p',c',e2⟩,_,_⟩:=hM.ints;exact⟨⟨p',c',bG U (i:=1) rfl (by rw[e2];rfl)⟩,⟨p,c,bG U (i:=0) rfl (by rw[e1];rfl)⟩⟩
theorem gz.jF {h0 h:Heap} {bm:Nat} {pre post:List Value} {M:bZ} {B:List Nat} (hM:gz h0 h bm pre post M B) {n:Int} (h1:0 < n) (h2:n<=M.objs.length) :
  ∃ bo c,rd h bm (pre.length+0)=some (.slice (some ⟨bo,0,none⟩) M.objs.length c)/\rd h bo (0+(n-1).toNat*2)=some (.int .i64 (aF M.objs n).cls):=by
 have hi:(n-1).toNat < M.objs.length:=by omega
 obtain⟨bo,c,tm,vf,vs,q,r,t,v,Bi,U,mS,hq,_⟩:=hM.obj (ud M.objs hi);have cO:(M.objs.take (n-1).toNat).length=(n-1).toNat:=by simp;omega
 have sQ:aF M.objs n=M.objs[(n-1).toNat]:=ue hi (by omega);exact⟨bo,c,bG U (i:=0) rfl rfl,by rw[sQ];exact bG mS (i:=0) (by omega) rfl⟩
theorem uk (h0 h:Heap) (bm:Nat) (us:List Value) (u:aU) (M:bZ) (B:List Nat) (n:Int) (hM:gz h0 h bm [] [] M B) (hu:dL h0 us u) (ok:cj u.J) (hn:0 < n/\n<=M.objs.length) (zL:M.objs.length<=1000) (hl:M.ag.length<=1000)
  (hc:(aF M.objs n).cls < u.J.length) (sF:∀ g∈M.ag,0<=g.ah/\g.ah < u.methods.length) :
  bI prog 85 [.agg ⟨us⟩,.pointer (some ⟨bm,0,none⟩),.int .i64 n] h λ_ h'=>∃ B',gz h0 h' bm [] [] (cK u n M) B'/\Ev h h' (bm::B) (bm::B'):=by
 have iJ:=hu;obtain⟨p,cc,q,d,rfl,hcs,fM,jN,hl2⟩:=hu.form;obtain⟨bo,co,r1,r2⟩:=hM.jF hn.1 hn.2;refine bS au func85 F85 Z7 rfl ?_;conv=>whnf
 repeat' ((first|refine ld r1 ?_|refine ld r2 ?_|refine aq ?_|refine aj ?_|refine ptr ?_)<;>conv=>whnf)
 refine fm [1,2,3,6] [3] (λs:List bU × Heap × List Nat=>gz h0 s.2.1 bm [] [] {M with ag:=s.1} s.2.2/\Ev h s.2.1 (bm::B) (bm::s.2.2)/\cK u n {M with ag:=s.1}=cK u n M/\s.1.length<=1000/\∀ g∈s.1,0<=g.ah/\g.ah < u.methods.length) (λs=>s.1.length)
  (λs=>([.v (.pointer (some ⟨bm,0,none⟩)),.v (.int .i64 n),.l 3 0,.v (.int .i64 (aF M.objs n).cls)],[some [.slice p u.J.length cc,.slice q u.methods.length d]],s.2.1))
  (M.ag,h,B) ⟨hM,Ev.refl _ _,rfl,hl,sF⟩ rfl ?_
 rintro⟨fs,h1,B1⟩ ⟨A3,fD,dD,sG,sU⟩;simp only at A3 fD dD sG sU ⊢;conv=>whnf
 obtain⟨⟨pf,cf,r3⟩,_⟩:=A3.jy;simp only[List.length_nil,Nat.zero_add]at r3;refine ld r3 ?_;conv=>whnf
 apply ax<;>intro g0;all_goals conv=>whnf
 ·obtain⟨gs,g,rfl⟩:∃ gs gl,fs=gs++[gl]:=by
   rcases List.eq_nil_or_concat fs with rfl|⟨gs,gl,rfl⟩
   ·simp at g0
   ·exact⟨gs,gl,by simp⟩
  have hg:=sU g (by simp);have hlen:(gs++[g]).length=gs.length+1:=by simp
  obtain⟨tm,vo,vs,bf,c,t,qq,r,v1,v2,Bl,Bs,iq,jS,hq,o1,o2,nd,gA,cD,ne,eF⟩:=A3.lens (fs:=gs) (f:=g) rfl;have C3:rd h1 bm 1=some (.slice (some ⟨bf,0,none⟩) (gs.length+1) c):=bG iq (i:=1) rfl rfl;rw[r3]at C3;simp only[Option.some.injEq,Value.slice.injEq]at C3;obtain⟨rfl,_,rfl⟩:=C3;rw[yl]at dD;have zz:0+(((gs++[g]).length:Int)-1).toNat*4=gs.length*4:=by omega
  have s0:rd h1 bf (0+(((gs++[g]).length:Int)-1).toNat*4)=some (.int .i64 g.ah):=by rw[zz];exact bG jS (i:=0) (by omega) rfl
  have s1:rd h1 bf (0+(((gs++[g]).length:Int)-1).toNat*4+1)=some (.int .i64 g.pc):=by rw[zz];exact bG jS (i:=1) (by omega) rfl
  have hi:g.ah.toNat < u.methods.length:=by omega
  have e:=fM.get hi;obtain⟨bb,oo,mcs,vw,e1,e2⟩:=e;have mY:br u g.ah=u.methods[g.ah.toNat]:=gv hi (by omega);obtain⟨p1,c1,p2,c2,p3,c3,p4,c4,e3,k1,k2,k3,k4,k5,k6,k7,k8,d1,d2,d3,d4⟩:=e2.form;subst e3;have s2:rd h1 bb (oo+g.ah.toNat*8+7)=some (.slice p4 (br u g.ah).catches.length c4):=by rw[mY];exact aX A3.le (aK e1 (i:=7) rfl)
  have P9:Row 4 CI h1 (.slice p4 (br u g.ah).catches.length c4) (br u g.ah).catches:=by rw[mY];exact k8.le A3.le (λ_ _ hx=>hx)
  have d4':(br u g.ah).catches.length<=140737488351232:=by rw[mY];exact d4
  have Ba:fo h1 (.slice p u.J.length cc) u.J:=hcs.le A3.le (λ_ _ hx=>hx.le A3.le);repeat' ((first|refine ld r3 ?_|refine ld s0 ?_|refine aO vw ?_|refine ld s2 ?_|refine aq ?_|refine aj ?_|refine ptr ?_)<;>conv=>whnf)
  refine fm [1,2,3,6,7,44,45,46] [3] (λi:Nat=>i<=(br u g.ah).catches.length/\∀ j (hj:j < (br u g.ah).catches.length),j < i->¬(((br u g.ah).catches[j].lo<=g.pc/\g.pc < (br u g.ah).catches[j].hi)/\up u.J (aF M.objs n).cls (br u g.ah).catches[j].cls=true)) (λi=>(br u g.ah).catches.length-i)
   (λi=>([.v (.pointer (some ⟨bm,0,none⟩)),.v (.int .i64 n),.l 3 0,.v (.int .i64 (aF M.objs n).cls),.v (.pointer (some ⟨bf,0+(((gs++[g]).length:Int)-1).toNat*4,none⟩)),.v (.slice p4 (br u g.ah).catches.length c4),.v (.int .i64 (br u g.ah).catches.length),.v (.int .i64 i)],[some [.slice p u.J.length cc,.slice q u.methods.length d]],h1)) 0 ⟨by omega,λ_ _ hx=>by omega⟩ rfl ?_
  rintro i ⟨hi4,OE⟩;conv=>whnf
  apply ax<;>intro g5;all_goals conv=>whnf
  ·have cG:i < (br u g.ah).catches.length:=by omega
   have f:=P9.get cG;obtain⟨bc,oc,cvs,JE,f1,f2,f3⟩:=f;subst f2;have go:¬(((br u g.ah).catches[i].lo<=g.pc/\g.pc < (br u g.ah).catches[i].hi)/\up u.J (aF M.objs n).cls (br u g.ah).catches[i].cls=true)->∀ j (hj:j < (br u g.ah).catches.length),j < i+1->¬(((br u g.ah).catches[j].lo<=g.pc/\g.pc < (br u g.ah).catches[j].hi)/\up u.J (aF M.objs n).cls (br u g.ah).catches[j].cls=true):=by
    intro hx j hj jv;rcases Nat.lt_succ_iff_lt_or_eq.1 jv with gH|rfl
    ·exact OE j hj gH
    ·exact hx
   refine aq ?_;conv=>whnf
   refine aO JE ?_;conv=>whnf
   refine dK f1 ?_;conv=>whnf
   repeat' ((first|refine ld s1 ?_|refine aT (Jo _ _ _) ?_|refine aq ?_|refine aj ?_|refine ptr ?_)<;>conv=>whnf)
   apply ax<;>intro g6;all_goals conv=>whnf
   ·refine aT (wB _ _ _ _ _ _ _ Ba ok hc) ?_;conv=>whnf
    apply dS<;>intro g7;all_goals conv=>whnf
    ·have BU:mh u (aF M.objs n).cls g.pc (br u g.ah).catches=some (br u g.ah).catches[i]:=by
      rw[mo _ i OE,List.drop_eq_getElem_cons cG,mh,if_pos ⟨g6,g7⟩]
     rw[BU]at dD;simp only at dD;refine kJ jS (i:=1) [.int .i64 g.ah,.int .i64 (br u g.ah).catches[i].to,v1,v2] (by omega) (by simp) rfl (λh2 fU rR=>?_);conv=>whnf
     refine ay (mZ _ _) ?_;conv=>whnf
     refine dI [.bool true,.int .i64 n] rfl (λb h3 U jj l3 JD=>?_);conv=>whnf
     have gI:h1 b=none:=by
      rw[fU]at U;by_cases rG:b=bf
      ·subst rG;simp[Heap.set]at U
      ·simpa [Heap.set,rG]using U
     have Qa:b≠bf:=by rintro rfl;rw[rR]at U;cases U
     refine kJ (l3 _ _ rR) (i:=3) [.int .i64 g.ah,.int .i64 (br u g.ah).catches[i].to,v1,.slice (some ⟨b,0,none⟩) 1 1] (by omega) (by simp) rfl (λh4 wU Qb=>?_);have qA:∀ x,x≠bf->x≠b->h4 x=h1 x:=by
      intro x n1 n2;rw[wU,jj,fU];simp[Heap.set,n1,n2]
     have RU:h4 b=some (.cells [Value.bool true,.int .i64 n].toArray 33 (0,0)):=by
      rw[wU];simp only[Heap.set,Qa,if_false];exact JD
     have Qc:∀ x∈Bl,x≠bf/\x≠b:=λx hx=>⟨(cD x (by simp[hx])).1,by rintro rfl;obtain⟨o,ho⟩:=o1.in x hx;rw[gI]at ho;cases ho⟩
     obtain⟨B2,zi,gP⟩:=eF h4 {g with pc:=(br u g.ah).catches[i].to,stack:=[⟨true,n⟩]} v1 (.slice (some ⟨b,0,none⟩) 1 1) Bl [b] Qb
      (λx hx hn=>by
       have n1:x≠bf:=λhy=>hx (by simp[hy]);have n2:x≠b:=by rintro rfl;exact hn gI
       exact qA x n1 n2)
      (o1.aG λx hx o ho=>by rw[qA x (Qc x hx).1 (Qc x hx).2];exact ho)
      (fR (t:=33) (by simp[bR]) rfl (by rw[RU];rfl))
      (λx hx=>by
       rcases List.mem_append.1 hx with hx|hx
       ·exact .inl (by simp[hx])
       ·rw[List.mem_singleton.1 hx];exact .inr gI)
      (by
       have n1:Nd Bl:=nd.less λa=>by simp only[List.count_append];omega
       intro a;have:=n1 a;simp only[List.count_append,List.count_cons,List.count_nil];by_cases ha:b=a
       ·subst ha;have:Bl.count b=0:=List.count_eq_zero.2 λhx=>(Qc b hx).2 rfl;simp[this]
       ·simp[ha];exact this)
     conv=>whnf
     refine⟨B2,?_,fD.trans gP⟩;rw[<-dD];exact zi
    ·refine aj ?_;conv=>whnf
     refine dm (i+1) ⟨by omega,go (λhx=>by rw[hx.2]at g7;cases g7)⟩ (by omega) rfl
   ·refine aj ?_;conv=>whnf
    refine dm (i+1) ⟨by omega,go (λhx=>g6 hx.1)⟩ (by omega) rfl
  ·have BU:mh u (aF M.objs n).cls g.pc (br u g.ah).catches=none:=by
    rw[mo _ (br u g.ah).catches.length (λj hj _=>OE j hj (by omega)),List.drop_length];rfl
   rw[BU]at dD;simp only at dD;obtain⟨t',Qd,c',yd,oW,JF,gG,B2,zi,gP⟩:=A3.MM (fs:=gs) (f:=g) rfl;have C3:rd h1 bm 1=some (.slice Qd (gs.length+1) c'):=bG JF (i:=1) rfl rfl;rw[r3]at C3;simp only[Option.some.injEq,Value.slice.injEq]at C3;obtain⟨rfl,_,rfl⟩:=C3;repeat' ((first|refine ld r3 ?_|refine aq ?_|refine aj ?_|refine ptr ?_)<;>conv=>whnf)
   have JB:(((gs++[g]).length:Int)-1).toNat=gs.length:=by omega
   refine kJ JF (i:=1) (aB yd (.slice (some ⟨bf,0,none⟩) gs.length cf) oW {M with ag:=gs++[g]}) rfl (by simp[aB]) (by rw[JB];rfl) (λh2 fU rR=>?_);rw[<-fU]at zi gP;conv=>whnf
   refine dm (gs,h2,B2) ⟨zi,fD.trans gP,dD,by simp at sG ⊢;omega,λx hx=>sU x (by simp[hx])⟩ (by simp) rfl
 ·have JC:fs=[]:=List.eq_nil_of_length_eq_zero (by omega);subst JC;obtain⟨t',yd,CY,oW,bz,_,_,_,hint⟩:=A3.ints;refine kJ bz (i:=4) (aB yd CY oW {M with ag:=[],fin:=2}) rfl (by simp[aB]) rfl (λh2 fU rR=>?_);conv=>whnf
  refine ay (mZ _ _) ?_;conv=>whnf
  refine z7 rR ([]++aB yd CY oW {M with ag:=[],fin:=2,out:=⟨true,n⟩}++[]) (by simp[aB]) rfl (λh3 jj JD=>?_);obtain⟨zi,gP⟩:=hint {M with ag:=[],fin:=2,out:=⟨true,n⟩} rfl rfl rfl;have C4:h3=h1.set bm (.cells ([]++aB yd CY oW {M with ag:=[],fin:=2,out:=⟨true,n⟩}++[]).toArray t' (0,0)):=by
   rw[jj,fU,set_set]
  rw[<-C4]at zi gP;conv=>whnf
  refine⟨B1,?_,fD.trans gP⟩;rw[<-dD];exact zi
def jk (u:aU) (x:dX) (aS:List Vl) (fs:List bU) (M:bZ):Except Int bZ :=
 let a:=aS.getD 0 cJ
 if x.kind=20 then jI u x.a aS M
 else if x.kind=21 then (match ef M.objs a.n (up u.J (aF M.objs a.n).cls x.a)with
  | .error e=>.error e
  | .ok o=>jI u (find u o.cls x.b) aS M)
 else if x.kind=22 then uj a fs M
 else if x.kind=23 then (match ef M.objs a.n (up u.J (aF M.objs a.n).cls 1)with
  | .error e=>.error e
  | .ok _=>.ok (cK u a.n M))
 else .ok M
theorem pq.trans {h0 h h1:Heap} {bm:Nat} {B B1:List Nat} {r:Except Int bZ} {o:Out} {h':Heap} (ev:Ev h h1 (bm::B) (bm::B1)) (he:pq h0 h1 bm B1 r o h'):pq h0 h bm B r o h':=by
 cases o with
 | ret v=>obtain⟨M',e,B',k1,k2⟩:=he;exact⟨M',e,B',k1,ev.trans k2⟩
 | lE c=>exact he
theorem rH (h0 h:Heap) (bs bm bf off:Nat) (u:aU) (m:cB) (fs:List bU) (f:bU) (M:bZ) (B:List Nat) (x:dX) (aS:List Vl) (vt:Value) (Bt:List Nat) (hS:kq h0 h bs bm bf off u m fs f M B)
  (ot:cq h vt aS Bt) (jx:∀ b∈Bt,b ∉ bm::B/\b≠bs) (ok:cj u.J) (hk:20<=x.kind/\x.kind<=23) (hl:M.objs.length<=900) (OC:M.ag.length<=900) (sQ:Jy u M.objs) (tr:∀ v∈aS,v.ref=true->0<=v.n/\v.n<=M.objs.length)
  (G0:x.kind=20->(0<=x.a/\x.a < u.methods.length)/\((aS.length:Int)<=(br u x.a).locals/\(br u x.a).locals<=3))
  (LJ:x.kind=21->∃ a r,aS=a::r/\a.ref=true) (V7:x.kind=21->∀ c:Int,c < u.J.length->up u.J c x.a=true->0<=find u c x.b/\((aS.length:Int)<=(br u (find u c x.b)).locals/\(br u (find u c x.b)).locals<=3))
  (h22:x.kind=22->∃ a,aS=[a]) (h23:x.kind=23->∃ a,aS=[a]/\a.ref=true) (sF:∀ g∈M.ag,(0<=g.ah/\g.ah < u.methods.length)/\0<=g.pc/\g.pc<=1000) :
  cH prog 172 [.pointer (some ⟨bs,0,none⟩),.agg #[.int .i64 x.kind,.int .i64 x.a,.int .i64 x.b],vt] h (pq h0 h bm B (jk u x aS fs M)):=by
 obtain⟨kind,a,b⟩:=x;simp only at hk G0 LJ V7 h22 h23 ⊢;obtain⟨pt,ct,rfl,_⟩:=ot.form;obtain⟨r1,r2,_,p,cc,q,d,hu,r9,gV,P3,_⟩:=hS.mp;have Ef:kind=20\/kind=21\/kind=22\/kind=23:=by omega
 rcases Ef with rfl|rfl|rfl|rfl
 ·refine outs au func172 I4 FW rfl ?_;conv=>whnf
  refine cW (C0 h0 h bs bm bf off u m fs f M B a aS _ Bt hS ot jx (G0 rfl).1 (G0 rfl).2) ?_ ?_
  ·rintro v h' hh;conv=>whnf
   exact hh
  ·rintro c h' hh;exact hh
 ·obtain⟨v0,rr,rfl,gD⟩:=LJ rfl;have hlen:0 < (List.map bR (v0::rr)).length:=by simp
  obtain⟨b0,p7,_,dQ⟩:=ot.all (by simp);have n0:=(dQ 0 (by simp)).1;have q0:=(dQ 0 (by simp)).2;simp only[List.getElem_cons_zero]at n0 q0;have pQ:=tr v0 (by simp) gD;have dD:jk u ⟨21,a,b⟩ (v0::rr) fs M=(match ef M.objs v0.n (up u.J (aF M.objs v0.n).cls a)with
   | .error e=>.error e
   | .ok o=>jI u (find u o.cls b) (v0::rr) M):=rfl
  rw[dD];refine outs au func172 I4 FW rfl ?_;conv=>whnf
  repeat' ((first|exact trivial|apply And.intro|refine aO p7 ?_|refine dK n0 ?_|refine aq ?_|refine aj ?_|refine ptr ?_)<;>conv=>whnf)
  all_goals
   refine qZ (rD h0 h bs bm bf off u m fs f M B v0 a hS ok pQ (by omega) (λhp=>(sQ _ (jH hp pQ.2)).1.2)) ?_ ?_
   ·rintro v h1 ⟨l1,e1,e2,bo,c,s1,rfl⟩;refine⟨l1,?_⟩;have fE:=hS.mono l1;obtain⟨bo',c',w1,w2⟩:=fE.ma.jF e1 pQ.2;simp only[List.length_nil,Nat.zero_add]at w1;rw[s1]at w1;simp only[Option.some.injEq,Value.slice.injEq,Addr.mk.injEq,and_true,true_and]at w1;obtain⟨rfl,rfl⟩:=w1;have lq:=(sQ _ (jH e1 pQ.2)).1.2;have Yu:=kI e2;have hsend:=V7 rfl _ lq e2;have CT:=hu.le fE.ma.le;rw[gh e1 e2];simp only;conv=>whnf
    repeat' ((first|exact trivial|apply And.intro|refine dK (bK l1 P3) ?_|refine ld (aX l1 r2) ?_|refine ld s1 ?_|refine aO p7 ?_|refine ld (aX l1 q0) ?_|refine ld w2 ?_|refine aT (xV _ u _ _ h1 CT ok (by omega) lq) ?_|refine aq ?_|refine aj ?_|refine ptr ?_)<;>conv=>whnf)
    all_goals
     refine cW (C0 h0 h1 bs bm bf off u m fs f M B _ (v0::rr) _ Bt fE (ot.aG (cC.of_le l1 _)) jx ⟨hsend.1,(ji u _ b).2⟩ hsend.2) ?_ ?_
     ·rintro v h' hh;conv=>whnf
      exact pq.trans (Ev.of_le l1 (bm::B) (λb U=>.inl U)) hh
     ·rintro c h' hh;exact pq.trans (Ev.of_le l1 (bm::B) (λb U=>.inl U)) hh
   ·rintro c h1 ⟨l1,e1⟩;have o9:=hS.ma.Jr l1;rcases e1 with ⟨e1,e2,e3⟩|⟨e1,e3⟩
    ·exact⟨0,by rw[fS e1 e2],e3,o9⟩
    ·exact⟨2,by rw[fT e1],e3,o9⟩
 ·obtain⟨v0,rfl⟩:=h22 rfl;have hlen:(List.map bR [v0]).length=1:=rfl;obtain⟨b0,p7,_,dQ⟩:=ot.all (by simp);have n0:=(dQ 0 (by simp)).1;simp only[List.getElem_cons_zero]at n0;refine outs au func172 I4 FW rfl ?_;conv=>whnf
  repeat' ((first|refine aO p7 ?_|refine dK n0 ?_|refine aq ?_|refine aj ?_|refine ptr ?_)<;>conv=>whnf)
  refine cW (P7 h0 h bs bm bf off u m fs f M B v0 hS (by omega) (λg hg=>sF g (by rw[hS.ag];simp[hg]))) ?_ ?_
  ·rintro v h' hh;conv=>whnf
   exact hh
  ·rintro c h' hh;exact hh
 ·obtain⟨v0,rfl,gD⟩:=h23 rfl;have hlen:(List.map bR [v0]).length=1:=rfl;obtain⟨b0,p7,_,dQ⟩:=ot.all (by simp);have n0:=(dQ 0 (by simp)).1;have q0:=(dQ 0 (by simp)).2;simp only[List.getElem_cons_zero]at n0 q0;have pQ:=tr v0 (by simp) gD;have dD:jk u ⟨23,a,b⟩ [v0] fs M=(match ef M.objs v0.n (up u.J (aF M.objs v0.n).cls 1)with
   | .error e=>.error e
   | .ok _=>.ok (cK u v0.n M)):=rfl
  rw[dD];refine outs au func172 I4 FW rfl ?_;conv=>whnf
  repeat' ((first|exact trivial|apply And.intro|refine aO p7 ?_|refine dK n0 ?_|refine aq ?_|refine aj ?_|refine ptr ?_)<;>conv=>whnf)
  all_goals
   refine cW (rD h0 h bs bm bf off u m fs f M B v0 1 hS ok pQ (by omega) (λhp=>(sQ _ (jH hp pQ.2)).1.2)) ?_ ?_
   ·rintro v h1 ⟨l1,e1,e2,bo,c,s1,rfl⟩;have fE:=hS.mono l1;have lq:=(sQ _ (jH e1 pQ.2)).1.2;rw[gh e1 e2];simp only;conv=>whnf
    repeat' ((first|exact trivial|apply And.intro|refine dK (bK l1 P3) ?_|refine ld (aX l1 r2) ?_|refine aO p7 ?_|refine ld (aX l1 q0) ?_|refine aq ?_|refine aj ?_|refine ptr ?_)<;>conv=>whnf)
    all_goals
     refine aD (uk h0 h1 bm _ u M B v0.n fE.ma hu ok ⟨e1,pQ.2⟩ (by omega) (by omega) lq (λg hg=>(sF g hg).1)) ?_;rintro v h2 ⟨B',k1,k2⟩;conv=>whnf
     exact⟨_,rfl,B',k1,(Ev.of_le l1 (bm::B) (λb U=>.inl U)).trans k2⟩
   ·rintro c h1 ⟨l1,e1⟩;have o9:=hS.ma.Jr l1;rcases e1 with ⟨e1,e2,e3⟩|⟨e1,e3⟩
    ·exact⟨0,by rw[fS e1 e2],e3,o9⟩
    ·exact⟨2,by rw[fT e1],e3,o9⟩
abbrev RV:=Except Int (List Ob × bU × List Int × Bool)
def eV (objs:List Ob) (f:bU) (said:List Int) (v:Vl):RV:=match di objs f v with
 | .ok (o,g)=>.ok (o,g,said,false)
 | .error e=>.error e
def gK (u:aU) (x:dX) (aS:List Vl) (objs:List Ob) (f:bU) (said:List Int):RV :=
 let a:=aS.getD 0 cJ
 let b:=aS.getD 1 cJ
 if x.kind=1 then eV objs f said ⟨false,x.a⟩
 else if x.kind=2 then eV objs f said ⟨true,0⟩
 else if x.kind=3 then eV objs f said (f.locals.getD x.a.toNat cJ)
 else if x.kind=4 then .ok (objs,{f with locals:=f.locals.set x.a.toNat a},said,false)
 else if x.kind=5 then .ok (objs,f,said,false)
 else if x.kind=6 then (match di objs f a with
  | .ok (_,g)=>eV objs g said a
  | .error e=>.error e)
 else if x.kind=7 then (if (gS x.a a.n b.n).2 then eV objs f said ⟨false,(gS x.a a.n b.n).1⟩else .error 1)
 else if x.kind=8 then .ok (objs,f,said,decide (a.n < b.n))
 else if x.kind=9 then .ok (objs,f,said,decide (a.n=b.n))
 else if x.kind=10 then .ok (objs,f,said,decide (a.n=0))
 else if x.kind=11 then .ok (objs,f,said,true)
 else if x.kind=24 then .ok (objs,f,said++[a.n],false)
 else match bH u x aS objs f with
  | .ok (o,g)=>.ok (o,g,said,false)
  | .error e=>.error e
def dW:dX:=⟨0,0,0⟩
def lz (u:aU) (fs:List bU) (f:bU) (M:bZ):Except Int bZ :=
 let code:=(br u f.ah).code
 if (code.length:Int)<=f.pc then .error 0 else
 let x:=code.getD f.pc.toNat dW
 match dB u x f.stack with
 | none=>.error 0
 | some (aS,rest) =>
  let f1:bU:={f with stack:=rest}
  if 20<=x.kind/\x.kind<=23 then jk u x aS fs {M with ag:=fs++[f1]}
  else match gK u x aS M.objs f1 M.said with
   | .error e=>.error e
   | .ok (objs,g,said,p9)=>.ok {M with objs:=objs,said:=said,ag:=fs++[{g with pc:=if p9 then x.a else f.pc+1}]}
def Qe (n:Nat) (v:Vl):Prop:=v.ref=true->0<=v.n/\v.n<=n
structure V8 (u:aU) (n:Nat) (g:bU):Prop where
 ah:0<=g.ah/\g.ah < u.methods.length
 pc:0<=g.pc/\g.pc<=(br u g.ah).code.length
 loc:(g.locals.length:Int)=(br u g.ah).locals
 cA:g.stack.length<=4
 vl:∀ v∈g.locals,Qe n v
 vs:∀ v∈g.stack,Qe n v
structure G6 (u:aU) (M:bZ):Prop where
 objs:Jy u M.objs
 len:7<=M.objs.length/\M.objs.length<=400
 bE:∀ o∈M.objs,∀ v∈o.bE,Qe M.objs.length v
 jy:∀ g∈M.ag,V8 u M.objs.length g
 nf:M.ag.length<=4
 said:M.said.length<=400
theorem mq {u:aU} {x:dX} {cA aS rest:List Vl} (h:dB u x cA=some (aS,rest)):∃ ws,cM u x=some ws/\aS.length=ws.length/\iU ws aS=true/\cA=rest++aS:=by
 unfold dB at h;split at h
 ·cases h
 ·rename_i ws me;split at h
  ·cases h
  ·split at h
   ·rename_i h1 h2;simp only[Option.some.injEq,Prod.mk.injEq]at h;obtain⟨rfl,rfl⟩:=h;exact⟨ws,me,by simp;omega,h2,by simp⟩
   ·cases h
theorem sV {l:List Vl} (h:l.length=2):∃ a b,l=[a,b]:=by
 match l,h with
 | [a,b],_=>exact⟨a,b,rfl⟩
theorem fG {l:List Vl} (h:l.length=1):∃ a,l=[a]:=by
 match l,h with
 | [a],_=>exact⟨a,rfl⟩
theorem C5 {l:List Vl} (h:l.length=3):∃ a b c,l=[a,b,c]:=by
 match l,h with
 | [a,b,c],_=>exact⟨a,b,c,rfl⟩
theorem Qf {l:List Vl} (h:l.length=0):l=[]:=List.eq_nil_of_length_eq_zero h
theorem ir {u:aU} {k:Int} (h:0<=k/\k < u.methods.length):br u k∈u.methods:=by
 have hi:k.toNat < u.methods.length:=by omega
 rw[gv hi (by omega)];exact List.getElem_mem _
theorem eC.args {u:aU} (hu:eC u):∀ m∈u.methods,m.args.length<=2:=λm hm=>(hu.2.2.2.1 m hm).1.2.1
theorem eH.ok {u:aU} {m:cB} {x:dX} (hu:eC u) (hx:eH u m x):Oq u x:=by
 refine⟨hu.1,hu.args,λhk=>?_,λhk=>?_⟩
 ·obtain⟨kind,a,b⟩:=x;simp only at hk;subst hk;have:=(aI (p:=7) (q:=0) rfl).1 hx;simp[bA]at this;exact this.1.1
 ·obtain⟨kind,a,b⟩:=x;simp only at hk;subst hk;have:=(aI (p:=5) (q:=9) rfl).1 hx;simp[bA]at this;exact this.1
theorem kq.move {h0 h h':Heap} {bs bm bf off:Nat} {u:aU} {m:cB} {fs:List bU} {f:bU} {M M':bZ} {B B':List Nat} (hS:kq h0 h bs bm bf off u m fs f M B) (hM:gz h0 h' bm [] [] M' B') (hf:M'.ag=M.ag) (e1:h' bs=h bs) (e2:rd h' bm 1=rd h bm 1) (hn:bs ∉ bm::B') :
  kq h0 h' bs bm bf off u m fs f M' B':=by
 obtain⟨_,RQ,⟨jg,c,hr⟩,⟨ms,us,ts,dZ,hu,hm⟩,eU⟩:=hS;exact⟨hM,by rw[hf,RQ],⟨jg,c,by rw[e2];exact hr⟩,⟨ms,us,ts,by rw[e1];exact dZ,hu,hm⟩,hn⟩
theorem kq.aar {h0 h:Heap} {bs bm bf off:Nat} {u:aU} {m:cB} {fs:List bU} {f:bU} {M:bZ} {B:List Nat} (hS:kq h0 h bs bm bf off u m fs f M B):∃ v B1,rd h bf (off+2)=some v/\cq h v f.locals B1:=by
 obtain⟨t,q,r,v1,v2,B1,B2,jS,hq,o1,_⟩:=hS.lens;exact⟨v1,B1,bG jS (i:=2) (by omega) rfl,o1⟩
theorem kq.uZ {h0 h:Heap} {bs bm bf off:Nat} {u:aU} {m:cB} {fs:List bU} {f:bU} {M:bZ} {B:List Nat} (hS:kq h0 h bs bm bf off u m fs f M B) :
  ∃ t q r v1 v2,rd h bs 0=some (.pointer (some ⟨bf,off,none⟩))/\h bf=some (.cells (q++[.int .i64 f.ah,.int .i64 f.pc,v1,v2]++r).toArray t (0,0))/\q.length=off/\rd h bf (off+1)=some (.int .i64 f.pc) /\
   ∀ n,∃ B',gz h0 (h.set bf (.cells (q++[.int .i64 f.ah,.int .i64 n,v1,v2]++r).toArray t (0,0))) bm [] [] {M with ag:=fs++[{f with pc:=n}]} B'/\Ev h (h.set bf (.cells (q++[.int .i64 f.ah,.int .i64 n,v1,v2]++r).toArray t (0,0))) (bm::B) (bm::B'):=by
 obtain⟨t,q,r,v1,p2,c2,B2,jS,hq,o2,_,r1,r2,eF⟩:=hS.cA;refine⟨t,q,r,v1,_,r1,jS,hq,bG jS (i:=1) (by omega) rfl,λn=>?_⟩;obtain⟨_,_,_,B',hS',ev⟩:=eF h _ B2 f.stack n (λ_ _ _=>rfl) o2 (λb U=>.inl U);exact⟨B',hS'.ma,ev⟩
theorem kq.ym {h0 h:Heap} {bs bm bf off:Nat} {u:aU} {m:cB} {fs:List bU} {f:bU} {M:bZ} {B:List Nat} {K:Value->Prop} (hS:kq h0 h bs bm bf off u m fs f M B) (hk:K (.pointer (some ⟨bf,off,none⟩))):Ld h bs 0 K:=ld hS.mp.1 hk
theorem kq.jP {h0 h:Heap} {bs bm bf off:Nat} {u:aU} {m:cB} {fs:List bU} {f:bU} {M:bZ} {B:List Nat} {K:Heap->Prop} {n:Int} (hS:kq h0 h bs bm bf off u m fs f M B)
  (hk:∀ h9 B9,gz h0 h9 bm [] [] {M with ag:=fs++[{f with pc:=n}]} B9->Ev h h9 (bm::B) (bm::B9)->K h9):St h bf (off+1) [.int .i64 n] K:=by
 obtain⟨tt,qt,rt,vt1,vt2,z1,zb,zq,z2,aas⟩:=hS.uZ;refine kJ zb (i:=1) [.int .i64 f.ah,.int .i64 n,vt1,vt2] (by omega) (by simp) rfl (λh9 MO _=>?_);obtain⟨B9,lI,lJ⟩:=aas n;rw[<-MO]at lI lJ;exact hk h9 B9 lI lJ
theorem yo {h h':Heap} {b:Nat} (e:h' b=h b):∀(n off:Nat),eG h' b off n=eG h b off n
 | 0,_=>rfl
 | n+1,off=>by
  have:rd h' b off=rd h b off:=by unfold rd;rw[e]
  simp only[eG,this,yo e n]
theorem cn.blk {h:Heap} {n c b:Nat} {l:List Vl} {B:List Nat} (ho:cq h (.slice (some ⟨b,0,none⟩) n c) l B):b∈B/\h b≠none:=by
 obtain⟨_,⟨he,_,_⟩|⟨b',c',rest,t,he,_,U,_,rfl⟩⟩:=ho
 ·cases he
 ·simp only[Value.slice.injEq,Option.some.injEq,Addr.mk.injEq,and_true]at he;rw[he.1];simp[U]
theorem nW {objs:List Ob} {f:bU} {said:List Int} {v:Vl} (h:f.stack.length < 4):eV objs f said v=.ok (objs,{f with stack:=f.stack++[v]},said,false):=by simp[eV,di,h]
theorem lK {objs:List Ob} {f:bU} {said:List Int} {v:Vl} (h:4<=f.stack.length):eV objs f said v=.error 0:=by
 unfold eV di;rw[if_neg (by omega)]
theorem eD {u:aU} {fs:List bU} {f:bU} {M:bZ} {x:dX} {aS rest:List Vl} (D0:¬((br u f.ah).code.length:Int)<=f.pc) (hx:(br u f.ah).code.getD f.pc.toNat dW=x) (ht:dB u x f.stack=some (aS,rest)) (hk:¬(20<=x.kind/\x.kind<=23)) :
  lz u fs f M=(match gK u x aS M.objs {f with stack:=rest} M.said with
   | .error e=>.error e
   | .ok (objs,g,said,p9)=>.ok {M with objs:=objs,said:=said,ag:=fs++[{g with pc:=if p9 then x.a else f.pc+1}]}):=by
 unfold lz;simp only[if_neg D0,hx,ht,if_neg hk]<;>rfl
theorem rI {u:aU} {fs:List bU} {f:bU} {M:bZ} {x:dX} {aS rest:List Vl} (D0:¬((br u f.ah).code.length:Int)<=f.pc) (hx:(br u f.ah).code.getD f.pc.toNat dW=x) (ht:dB u x f.stack=some (aS,rest)) (hk:20<=x.kind/\x.kind<=23) :
  lz u fs f M=jk u x aS fs {M with ag:=fs++[{f with stack:=rest}]}:=by
 unfold lz;simp only[if_neg D0,hx,ht,if_pos hk]
end Go.Proofs
