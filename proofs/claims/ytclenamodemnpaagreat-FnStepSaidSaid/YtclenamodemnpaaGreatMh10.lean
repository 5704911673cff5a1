/- Lemmas. -/
import Derived.Test.YtclenamodemnpaaGreatMh9
set_option linter.unusedSimpArgs false
set_option linter.unusedVariables false
namespace Go.Proofs
open Go.Vc Go.Proofs.Tryz
set_option maxRecDepth 100000
set_option maxHeartbeats 4000000
theorem qd.Sa {g0 g g1:Heap} {cp:Option Addr} {cc:Nat} {cs:List dR} {bm cm:Nat} {aP:List (List Value)} {A:List cB} {k:Nat} (u:qd g0 g cp cc cs bm cm aP A k) (a:wZ (since g0 g) (since g0 g1) bm) (gI:g1 bm=g bm):∃ u',dL (since g0 g1) [.slice cp cs.length cc,.slice (some ⟨bm,0,none⟩) A.length cm] u':=by
 obtain⟨A',hA,NM⟩:=js (Q:=λj (m:cB)=>∀ h1:j < aP.length,ee (since g0 g1) aP[j] m) A.length (λj hj=>by
  obtain⟨m2,r2⟩:=(u.row.each j (by rw[u.row.len];exact hj) hj).Cf.Sa a;exact⟨m2,λ_=>r2⟩)
 obtain⟨l',hl⟩:=DQ a u.cls;have own:=u.row.own.aG (h':=since g0 g1) (λb U o ho=>by rw[List.mem_singleton.1 U]at ho ⊢;unfold since at ho ⊢;rw[gI];exact ho);exact⟨⟨l',A'⟩,_,_,rfl,hl,own.Rw (by rw[u.row.len,hA]) (by show A'.length<=_;have:=u.num;omega) λj h1 h2=>NM j A'[j] (by simp[h2]) h1⟩
def Ls (g:Heap) (v:Value):Prop:=∃ us u,v=.agg ⟨us⟩/\dL g us u
theorem Ls.elim {g:Heap} {v:Value} {K:Prop} (h:Ls g v) (hk:∀ p n c q m d u,v=.agg #[.slice p n c,.slice q m d]->dL g [.slice p n c,.slice q m d] u->K):K:=by
 obtain⟨us,u,rfl,h⟩:=h;obtain⟨cp,cc,q,d,rfl,_⟩:=h.form;exact hk _ _ _ _ _ _ _ rfl h
theorem Ia {g:Heap} {bb:Nat} {vb:Value} {p:Int} (r:bD g bb vb p) (hp:p<=20000000) (hB:Pa g) :
  Dr prog 35 [.pointer (some ⟨bb,0,none⟩)] g bb vb p 11000 Ls:=by
 refine bS au func35 F35 Zx rfl ?_;conv=>whnf
 refine Pe r (At r (by omega) (x_ g) hB) (λv g1 q1 l1 r1 YT YU nz hA=>?_);refine hA.elim λcp hA=>hA.elim λcc hA=>hA.elim λcs hA=>hA.elim λbm hA=>hA.elim λcm hA=>hA.elim λaP hA=>hA.elim λA hA=>?_;have hv:=hA.1;subst hv;have u1:=hA.2.1;conv=>whnf
 refine bF r1 (by omega) (λx x0 x1 x2 r2=>?_);conv=>whnf
 apply ax<;>intro c0;all_goals conv=>whnf
 ·refine Pc r (by omega) (Au r r2 (by omega) (by omega) l1 nz u1) (λv g3 q3 l3 r3 q30 q31 hA=>?_);refine Ls.elim hA λp2 n2 c2 q2 m2 d2 u' hv hA2=>?_;subst hv;conv=>whnf
  exact⟨_,_,rfl,l3,r3.free,by omega,by omega,_,_,rfl,hA2⟩
 ·exact⟨_,_,rfl,l1,r2.free,by omega,by omega,_,_,rfl,u1.H6.le (aJ _ _)⟩
theorem qd.stO {g0 g:Heap} {bb:Nat} {vb:Value} {q0 q:Int} {K:Heap->Prop} {b off:Nat} {pre x post y:List Value} {t:TypeId} (h0:g0.le g) (r:bD g bb vb q) (r0:bD g0 bb vb q0) (hq:q0<=q) (U:since g0 g b=some (.cells (pre++x++post).toArray t (0,0))) (ho:off=pre.length) (hl:y.length=x.length) (hx:∀ v∈x,∃ z,v=.int .i64 z) (hy:∀ v∈y,∃ z,v=.int .i64 z/\cL z)
  (hK:∀ g1,g0.le g1->bD g1 bb vb q->One (since g0 g) (since g0 g1)->K (cN g1 bb vb q)):St (cN g bb vb q) b off y K:=by
 obtain⟨gA,bz⟩:=dM U;have NN:bb≠b:=λe=>by have:=r.free;rw[e,bz]at this;cases this
 have GA:=Heap.aM (o:=Obj.cells (pre++y++post).toArray t (0,0)) h0 gA;refine mQ r.free bz (by simp only[List.length_append];omega) (BO ho hl) (hK _ GA (r0.to GA (by simp[Heap.set,NN,r.free]) hq) ?_);rw[lN gA];exact NX U hl hx hy
theorem Pf {P:Program} {f:FuncId} {args:List Value} {g:Heap} {bb:Nat} {vb:Value} {p:Int} {x:Value} {K:Value->Heap->Prop} {E:List PanicEntry->Heap->Prop} (r:bD g bb vb p) (hc:Pure P f args g x) (hk:K x (cN g bb vb p)):Go.Vc.jA P f args (cN g bb vb p) K E :=
 O2 (R:=λv g'=>v=x/\g'=g) r (bI.mono hc λv h' hh=>⟨by rw[hh.2];exact x_ _,hh⟩) λv g' _ _ hh=>by
  rw[hh.1,hh.2];exact hk
theorem FE {g0 g:Heap} {b off n c:Nat} {l:List Int} (hr:cT (since g0 g) (.slice (some ⟨b,off,none⟩) n c) l) (nz:NF (since g0 g)) {i:Nat} (hi:i < l.length):∃ pre w post t,since g0 g b=some (.cells (pre++[Value.int .i64 w]++post).toArray t (0,0))/\pre.length=off+i*1:=by
 obtain⟨b4,o4,vs4,X7,Pg,t4,hp4,hf4,Bd,abp,abq,hr4,hi4⟩:=oA hr nz (by omega) hi;simp only[Option.some.injEq,Addr.mk.injEq,and_true]at hp4;obtain⟨rfl,rfl⟩:=hp4;obtain⟨rfl,j4⟩:=hi4;exact⟨X7,_,Pg,t4,abp,abq⟩
theorem GD {P:Program} {f:FuncId} {args:List Value} {h:Heap} {p:Prop} (hc:Pure P f args h (tf p)) (hp:p):Pure P f args h (.bool true):=by rw[lW hp]at hc;exact hc
theorem GF {P:Program} {f:FuncId} {args:List Value} {h:Heap} {p:Prop} (hc:Pure P f args h (tf p)) (hp:¬p):Pure P f args h (.bool false):=by rw[eN hp]at hc;exact hc
theorem X8 {x y z:Int}:∀ v∈[Value.int .i64 x,.int .i64 y,.int .i64 z],∃ w,v=.int .i64 w:=λv hv=>by
 simp only[List.mem_cons,List.not_mem_nil,or_false]at hv;rcases hv with rfl|rfl|rfl<;>exact⟨_,rfl⟩
theorem RE {x y z:Int} (h1:cL x) (h2:cL y) (h3:cL z):∀ v∈[Value.int .i64 x,.int .i64 y,.int .i64 z],∃ w,v=.int .i64 w/\cL w:=λv hv=>by
 simp only[List.mem_cons,List.not_mem_nil,or_false]at hv;rcases hv with rfl|rfl|rfl
 ·exact⟨_,rfl,h1⟩
 ·exact⟨_,rfl,h2⟩
 ·exact⟨_,rfl,h3⟩
theorem FF {g:Heap} {bb:Nat} {vb:Value} {p:Int} (r:bD g bb vb p) (hp:p<=20000000) (hB:Pa g) :
  Dr prog 37 [.pointer (some ⟨bb,0,none⟩)] g bb vb p 11000 Ls:=by
 refine bS au func37 G37 W7 rfl ?_;conv=>whnf
 refine Pe r (At r (by omega) (x_ g) hB) (λv g1 q1 l1 r1 YT YU nz hA=>?_);refine hA.elim λcp hA=>hA.elim λcc hA=>hA.elim λcs hA=>hA.elim λbm hA=>hA.elim λcm hA=>hA.elim λaP hA=>hA.elim λA hA=>?_;have hv:=hA.1;subst hv;have u:=hA.2.1;clear hA;have Rm:=u.num;have QK:=u.ok.1;have zm:=u.ok.2.1;conv=>whnf
 refine bF r1 (by omega) (λk k0 k1 k2 r2=>?_);have BQ:k.toNat < A.length:=by omega
 have f:=u.row.at BQ;obtain⟨L0,e3,hf,_⟩:=f;have md:=u.mid k.toNat L0 BQ;have Em:decide (k.toNat < A.length)=true:=by simp[BQ]
 rw[Em]at md;have hw:=md.wh rfl;obtain⟨⟨V1,RB⟩,Xt,LZ,a,bc,kc,bs,ks,kv,e,⟨R7,Mc⟩,oP⟩:=hw;have Lh:=md.head;clear md;have hex:=hf.ex;have X9:=hf.toR;rw[e]at hex e3 X9;clear e hf Em;generalize A[k.toNat]=m at V1 RB Xt LZ oP Lh hex e3 X9;obtain⟨a',c',s',k',e',i1,i2,i3,i4,⟨az,an⟩,rc,rs,rk,_⟩:=hex;simp only[List.cons.injEq,and_true,true_and]at e';obtain⟨rfl,rfl,rfl,rfl⟩:=e';have f:=az.form;obtain⟨ap,ac,rfl⟩:=f;have XX:∃ p n c,kv=Value.slice p n c:=by
  rcases oP with ⟨rfl,_⟩|⟨bk,rfl,_⟩
  ·exact⟨_,_,_,rfl⟩
  ·exact⟨_,_,_,rfl⟩
 obtain⟨pk,nk,ck,rfl⟩:=XX;have sG:=Lh.2.2.2.2.1;have zB:0<=m.locals:=by have:=Lh.2.2.2.2.2;omega
 have sg:=aJ g g1;have Ce:eG g1 bm (0+k.toNat*8) 8=some _:=bK sg e3;have ze:=aK Ce (i:=6) rfl;have zG:=aK Ce (i:=4) rfl;have zf:=aK Ce (i:=5) rfl;conv=>whnf
 refine aq ?_;conv=>whnf
 refine ptr ?_;conv=>whnf
 refine ld (aX (bh r2.free) zf) ?_;conv=>whnf
 refine bF r2 (by omega) (λat_ a0 a1 a2 r3=>?_);have m4:at_.toNat < m.code.length:=by omega
 have NS:at_.toNat < m.aL.length:=by omega
 have f:=oA rc nz (by omega) m4;obtain⟨b1,o1,vs1,abm,X6,t1,zD,N1,gI,FD,Lo,s9,Ij⟩:=f;simp only[Option.some.injEq,Addr.mk.injEq,and_true]at zD;obtain⟨rfl,rfl⟩:=zD;obtain⟨rfl,j1,j2,j3⟩:=Ij;have f:=oA rs nz (by omega) NS;obtain⟨b2,o2,Ji,abn,Ge,t2,E2,Y3,eX,yj,NT,Q6,IE⟩:=f;simp only[Option.some.injEq,Addr.mk.injEq,and_true]at E2;obtain⟨rfl,rfl⟩:=E2;obtain⟨sv1,sv2,rfl,Lq,RC⟩:=IE;have f:=Lq.len;obtain⟨ps1,cs1,rfl,_,_⟩:=f;have f:=RC.len;obtain⟨_,_,rfl,_,_⟩:=f;have abr:=LZ _ (w_ NS);have Sc:wL (since g g1) (since g g1):=wL.of_le (x_ _);conv=>whnf
 refine bF r3 (by omega) (λx x0 x1 x2 r4=>?_);conv=>whnf
 apply ax<;>intro c0;all_goals conv=>whnf
 ·refine Pc r (by omega) (Au r r4 (by omega) (by omega) l1 nz u) (λv g3 q3 l3 r3 q30 q31 hA=>?_);refine Ls.elim hA λp2 n2 c2 q2 m2 d2 u' hv hA2=>?_;subst hv;conv=>whnf
  exact⟨_,_,rfl,l3,r3.free,by omega,by omega,_,_,rfl,hA2⟩
 apply ax<;>intro c1;all_goals conv=>whnf
 ·skip
  refine aq ?_;conv=>whnf
  refine ptr ?_;conv=>whnf
  refine ld (aX (bh r4.free) ze) ?_;conv=>whnf
  refine O2 r4 (jX g1) (λv g6 l6 r6 hh=>?_);refine hh.elim λb1 hh=>hh.elim λb2 hv=>?_;subst hv;have lm:=bW g l6;conv=>whnf
  refine aq ?_;conv=>whnf
  refine ptr ?_;conv=>whnf
  refine qd.stS (bm:=bm) (ww l1 l6) r6 r (by omega) (lm _ _ yj) Mc (by rw[NT]) (hY _ _ _) (hY _ _ _) (λg7 l7 r7 ak RF=>?_);conv=>whnf
  refine((u.aG l6).Sa (ak.Cf bm) RF).elim λu9 RG=>?_;exact⟨_,_,rfl,l7,r7.free,by omega,by omega,_,u9,rfl,RG.le (aJ _ _)⟩
 apply ax<;>intro c2;all_goals conv=>whnf
 ·skip
  repeat' ((first|apply And.intro|refine aq ?_|refine ptr ?_|refine ld (aX (bh r6.free) (aX l6 ze)) ?_|refine ld (aX (bh r6.free) (aX l6 zG)) ?_|refine ld (aX (bh r6.free) (aX l6 zf)) ?_|refine ld (aX (bh r4.free) ze) ?_|refine ld (aX (bh r4.free) zG) ?_|refine ld (aX (bh r4.free) zf) ?_|refine dK (bK (bh r4.free) Ce) ?_|refine dK (bK (bh r6.free) (bK l6 Ce)) ?_|(refine iC r4 (y5 cs.length m.locals r4 (by omega) l1 (by omega) (by omega)) (λv g6 q6 l6 r6 XZ X0 hA=>?_);refine hA.elim λtv hA=>hA.elim λp5 hA=>hA.elim λn5 hA=>hA.elim λc5 hA=>hA.elim λp6 hA=>hA.elim λn6 hA=>hA.elim λc6 hA=>hA.elim λl5 hA=>hA.elim λl6' hA=>?_;have hv:=hA.1;subst hv;have lm:=bW g l6)|exact trivial)<;>conv=>whnf)
  all_goals
   refine qd.stS (bm:=bm) (ww l1 l6) r6 r (by omega) (lm _ _ yj) Mc (by rw[NT]) hA.2.1 hA.2.2 (λg7 l7 r7 ak RF=>?_);conv=>whnf
   refine((u.aG l6).Sa (ak.Cf bm) RF).elim λu9 RG=>?_;exact⟨_,_,rfl,l7,r7.free,by omega,by omega,_,u9,rfl,RG.le (aJ _ _)⟩
 apply ax<;>intro c3;all_goals conv=>whnf
 ·have On:=aK (bK sg Q6) (i:=0) rfl;have jW:=aK (bK sg Q6) (i:=1) rfl;cases ht:m.aL[at_.toNat].told
  ·rw[ht]at On;repeat' ((first|apply And.intro|refine aq ?_|refine ptr ?_|refine ld (aX (bh r6.free) (aX l6 ze)) ?_|refine ld (aX (bh r6.free) (aX l6 zG)) ?_|refine ld (aX (bh r6.free) (aX l6 zf)) ?_|refine ld (aX (bh r4.free) ze) ?_|refine ld (aX (bh r4.free) zG) ?_|refine ld (aX (bh r4.free) zf) ?_|refine dK (bK (bh r4.free) Ce) ?_|refine dK (bK (bh r6.free) (bK l6 Ce)) ?_|refine ld (aX (bh r4.free) On) ?_|exact trivial)<;>conv=>whnf)
   exact⟨_,_,rfl,l1,r4.free,by omega,by omega,_,_,rfl,u.H6.le (aJ _ _)⟩
  ·rw[ht]at On;have hln:=abr ht;repeat' ((first|apply And.intro|refine aq ?_|refine ptr ?_|refine ld (aX (bh r6.free) (aX l6 ze)) ?_|refine ld (aX (bh r6.free) (aX l6 zG)) ?_|refine ld (aX (bh r6.free) (aX l6 zf)) ?_|refine ld (aX (bh r4.free) ze) ?_|refine ld (aX (bh r4.free) zG) ?_|refine ld (aX (bh r4.free) zf) ?_|refine dK (bK (bh r4.free) Ce) ?_|refine dK (bK (bh r6.free) (bK l6 Ce)) ?_|refine ld (aX (bh r4.free) On) ?_|exact trivial)<;>conv=>whnf)
   apply ax<;>intro c5;all_goals conv=>whnf
   ·have f:=Lq.get (i:=0) (by omega);obtain⟨b3,o3,_,rfl,_,_⟩:=f;repeat' ((first|apply And.intro|refine aq ?_|refine ptr ?_|refine ld (aX (bh r6.free) (aX l6 ze)) ?_|refine ld (aX (bh r6.free) (aX l6 zG)) ?_|refine ld (aX (bh r6.free) (aX l6 zf)) ?_|refine ld (aX (bh r4.free) ze) ?_|refine ld (aX (bh r4.free) zG) ?_|refine ld (aX (bh r4.free) zf) ?_|refine dK (bK (bh r4.free) Ce) ?_|refine dK (bK (bh r6.free) (bK l6 Ce)) ?_|refine ld (aX (bh r4.free) jW) ?_|refine bF r4 (by omega) (λy y0 y1 y2 r5=>?_)|(refine iC r5 (rP cs.length r5 (by omega) (by omega)) (λv g6 q6 l6 r6 XZ X0 hA=>?_);obtain⟨rfl,z,rfl,z0,z1⟩:=hA)|exact trivial)<;>conv=>whnf)
    all_goals
     refine(FE Lq nz (i:=y.toNat) (by omega)).elim λX7 h4=>h4.elim λw4 h4=>h4.elim λPg h4=>h4.elim λt4 h4=>?_;refine qd.stO l1 r6 r (by omega) h4.1 (by rw[h4.2,Nat.mul_one]) rfl (λv hv=>⟨w4,List.mem_singleton.1 hv⟩) (λv hv=>⟨z,List.mem_singleton.1 hv,by unfold cL;omega⟩) (λg7 l7 r7 one=>?_);conv=>whnf
     refine(GC one u.H6).elim λu9 RG=>?_;exact⟨_,_,rfl,l7,r7.free,by omega,by omega,_,u9,rfl,RG.le (aJ _ _)⟩
   ·exact⟨_,_,rfl,l1,r4.free,by omega,by omega,_,_,rfl,u.H6.le (aJ _ _)⟩
 apply ax<;>intro c4;all_goals conv=>whnf
 ·skip
  repeat' ((first|apply And.intro|refine aq ?_|refine ptr ?_|refine ld (aX (bh r6.free) (aX l6 ze)) ?_|refine ld (aX (bh r6.free) (aX l6 zG)) ?_|refine ld (aX (bh r6.free) (aX l6 zf)) ?_|refine ld (aX (bh r4.free) ze) ?_|refine ld (aX (bh r4.free) zG) ?_|refine ld (aX (bh r4.free) zf) ?_|refine dK (bK (bh r4.free) Ce) ?_|refine dK (bK (bh r6.free) (bK l6 Ce)) ?_|(refine iC r4 (DC _ _ ⟨cs,A⟩ m r4 (by omega) (u.H6.le sg) (X9.le sg) u.ok sG (by show A.length<=100;omega)) (λv g6 q6 l6 r6 XZ X0 hA=>?_);refine hA.elim λkk hA=>hA.elim λka hA=>hA.elim λkb hA=>?_;have hv:=hA.1;subst hv)|(by_cases hI:eH ⟨cs,A⟩ m ⟨kk,ka,kb⟩<;>first|refine Pf r6 (GD (xg _ _ ⟨cs,A⟩ m ⟨kk,ka,kb⟩ g6 ((u.H6.le sg).le l6) ((X9.le sg).le l6) u.ok (by simp only;unfold cL;omega) zB) hI) ?_|refine Pf r6 (GF (xg _ _ ⟨cs,A⟩ m ⟨kk,ka,kb⟩ g6 ((u.H6.le sg).le l6) ((X9.le sg).le l6) u.ok (by simp only;unfold cL;omega) zB) hI) ?_)|exact trivial)<;>conv=>whnf)
  all_goals first
   | exact⟨_,_,rfl,ww l1 l6,r6.free,by omega,by omega,_,_,rfl,(u.H6.le (aJ _ _)).le l6⟩
   | (
    refine qd.stO (ww l1 l6) r6 r (by omega) (bW g l6 _ _ FD) (by rw[Lo]) rfl X8 (RE (by unfold cL;omega) (by unfold cL;omega) (by unfold cL;omega)) (λg7 l7 r7 one=>?_);conv=>whnf
    refine(GC one (u.aG l6).H6).elim λu9 RG=>?_;exact⟨_,_,rfl,l7,r7.free,by omega,by omega,_,u9,rfl,RG.le (aJ _ _)⟩)
 ·exact⟨_,_,rfl,l1,r4.free,by omega,by omega,_,_,rfl,u.H6.le (aJ _ _)⟩
theorem Lt (v:Value) (n:Nat) (h:Heap) (hB:Bytes h v n) (hn:n<=1000000000000000) :
  bI prog 34 [v] h λr h'=>∃ bb vb,r=.pointer (some ⟨bb,0,none⟩)/\h'=cN h bb vb 0/\bD h bb vb 0:=by
 obtain⟨p,c,rfl,hc,hB⟩:=hB;refine bS au func34 F34 Zw rfl ?_;conv=>whnf
 apply ax<;>intro h1;all_goals conv=>whnf
 ·refine aq ?_;conv=>whnf
  refine new λbb U=>?_;conv=>whnf
  exact⟨bb,_,rfl,rfl,U,⟨2000,⟨p,c,rfl,by omega,.inr (by
   rcases hB with hB|⟨b,off,rfl,hB⟩
   ·omega
   ·exact⟨b,off,rfl,λi hi=>hB i (by omega)⟩)⟩,by omega⟩,by omega⟩
 ·refine new λbb U=>?_;conv=>whnf
  exact⟨bb,_,rfl,rfl,U,⟨n,⟨p,c,rfl,hc,hB⟩,by omega⟩,by omega⟩
theorem zg {g:Heap} {bb:Nat} {vb:Value} {p:Int} (r:bD g bb vb p) (hp:p<=90000000) :
  Dr prog 38 [.pointer (some ⟨bb,0,none⟩)] g bb vb p 1 λg' v=>g'=g/\∃ x:Int,v=.int .i64 x/\0<=x/\x<=200:=by
 refine bS au func38 F38 Zz rfl ?_;conv=>whnf
 refine bF r (by omega) (λx x0 x1 x2 r2=>?_);have hx:x=0\/x=1\/x=2\/x=3\/x=4\/x=5\/x=6\/x=7\/x=8:=by omega
 rcases hx with rfl|rfl|rfl|rfl|rfl|rfl|rfl|rfl|rfl;all_goals
  conv=>whnf
  refine aq ?_;conv=>whnf
  exact⟨_,_,rfl,x_ g,r2.free,by omega,by omega,rfl,_,rfl,by omega,by omega⟩
abbrev Lu (n:Nat):Prop:=n<=1048576
theorem cn.row {sz:Nat} {α:Type} {f:α->List Value} {Q:Heap->List Value->α->Prop} {h:Heap} {v:Value} {l:List α} {B:List Nat} (ho:cn sz h v (l.map f) B) (hl:l.length<=140737488351232) (hq:∀ a∈l,Q h (f a) a):Row sz Q h v l:=by
 obtain⟨hx,ho⟩:=ho;rcases ho with ⟨rfl,hn,_⟩|⟨b,c,rest,t,rfl,gG,U,hlen,_⟩
 ·have:l=[]:=by simpa using hn
  subst this;exact⟨by simp,none,0,rfl,by simp,.inl rfl⟩
 ·refine⟨hl,_,c,by simp,by simpa using gG,.inr ⟨b,0,rfl,λi x hi=>?_⟩⟩;have hm:x∈l:=List.mem_of_getElem? hi;obtain⟨cG,Ol⟩:=List.getElem?_eq_some_iff.1 hi;refine⟨f x,?_,hq x hm⟩;have BW:l.map f=(l.take i).map f++f x::(l.drop (i+1)).map f:=by
   rw[<-Ol,<-List.map_cons,<-List.map_append,<-List.drop_eq_getElem_cons cG,List.take_append_drop]
  have fV:((l.take i).map f).flatten.length=i*sz:=by
   rw[bQ (sz:=sz)]
   ·rw[List.length_map,List.length_take,Nat.min_eq_left (by omega)]
   ·intro y hy;exact hx y (by rw[BW];exact List.mem_append.2 (.inl hy))
  have xj:(f x).length=sz:=hx _ (List.mem_map_of_mem hm);rw[BW]at U hlen;have:=bP U sz (0+i*sz) (by
   simp only[List.flatten_append,List.flatten_cons,List.length_append]at hlen ⊢;omega)
  rw[this];congr 1
  have e:((List.map f (List.take i l)++f x::List.map f (List.drop (i+1) l)).flatten++rest)=(List.map f (List.take i l)).flatten++(f x++((List.map f (List.drop (i+1) l)).flatten++rest)):=by simp
  rw[e,Nat.zero_add,<-fV,List.drop_left,<-xj,List.take_left]
theorem Rows.abt {α:Type} {R:Heap->List Value->α->List Nat->Prop} {h:Heap} {xs:List (List Value)} {l:List α} {B:List Nat} (hr:Rows R h xs l B):∀ i (hi:i < l.length),∃ hj:i < xs.length,∃ C,R h xs[i] l[i] C:=λi hi=>⟨by rw[hr.len];exact hi,hr.mem i hi _⟩
theorem eE.Ya {α:Type} {R:Heap->List Value->α->List Nat->Prop} {Q:Heap->List Value->α->Prop} {sz:Nat} {h:Heap} {v:Value} {l:List α} {B:List Nat} (ho:eE R sz h v l B) (hl:l.length<=1000000\/l.length<=140737488351232) (hq:∀ x a C,a∈l->R h x a C->Q h x a):Row sz Q h v l:=by
 obtain⟨xs,B0,B1,⟨hx,ho⟩,hr,_⟩:=ho;have hlen:=hr.len;rcases ho with ⟨rfl,hn,_⟩|⟨b,c,rest,t,rfl,gG,U,uo,_⟩
 ·subst hn;have:l=[]:=List.eq_nil_of_length_eq_zero (by simpa using hlen.symm);subst this;exact⟨by simp,none,0,rfl,by simp,.inl rfl⟩
 ·refine⟨by omega,_,c,by rw[hlen],by omega,.inr ⟨b,0,rfl,λi x hi=>?_⟩⟩;obtain⟨cG,Ol⟩:=List.getElem?_eq_some_iff.1 hi;obtain⟨hj,C,hR⟩:=hr.abt i cG;have xj:xs[i].length=sz:=hx _ (w_ _);refine⟨xs[i],?_,by subst Ol;exact hq _ _ C (w_ _) hR⟩;have fV:(xs.take i).flatten.length=i*sz:=by
   rw[bQ (sz:=sz)]
   ·rw[List.length_take,Nat.min_eq_left (by omega)]
   ·intro y hy;exact hx y (List.mem_of_mem_take hy)
  have BW:xs.flatten++rest=(xs.take i).flatten++(xs[i]++((xs.drop (i+1)).flatten++rest)):=by
   have e:xs=xs.take i++xs[i]::xs.drop (i+1):=by rw[<-List.drop_eq_getElem_cons hj,List.take_append_drop]
   have e2:=congrArg List.flatten e;rw[e2];simp only[List.flatten_append,List.flatten_cons,List.append_assoc]
  rw[BW]at U uo;have:=bP U sz (0+i*sz) (by
   simp only[List.length_append]at uo ⊢;omega)
  rw[this,Nat.zero_add,<-fV,List.drop_left,<-xj,List.take_left]
def NY (_:Heap) (vs:List Value) (x:Int):Prop:=vs=[.int .i64 x]
def Sd (_:Heap) (vs:List Value) (x:Vl):Prop:=vs=[.bool x.ref,.int .i64 x.n]
def ObQ (h:Heap) (vs:List Value) (o:Ob):Prop:=∃ v,vs=[.int .i64 o.cls,v]/\Row 2 Sd h v o.bE
def abu (h:Heap) (vs:List Value) (f:bU):Prop:=∃ v1 v2,vs=[.int .i64 f.ah,.int .i64 f.pc,v1,v2]/\Row 2 Sd h v1 f.locals/\Row 2 Sd h v2 f.stack
def RH (h:Heap) (mc:List Value) (M:bZ):Prop:=∃ vo vf vs,mc=aB vo vf vs M/\Row 2 ObQ h vo M.objs/\Row 4 abu h vf M.ag/\Row 1 NY h vs M.said
theorem Ib {h:Heap} {v:Value} {l:List Int} {B:List Nat} (ho:dV h v l B) (hl:l.length<=140737488351232):Row 1 NY h v l:=cn.row ho hl λ_ _=>rfl
theorem vZ {h:Heap} {v:Value} {l:List Vl} {B:List Nat} (ho:cq h v l B) (hl:l.length<=140737488351232):Row 2 Sd h v l:=cn.row ho hl λ_ _=>rfl
def Lv (o:Ob):Prop:=Lu o.bE.length
def Lw (f:bU):Prop:=Lu f.locals.length/\Lu f.stack.length
structure Lx (M:bZ):Prop where
 objs:Lu M.objs.length
 ob:∀ o∈M.objs,Lv o
 ag:Lu M.ag.length
 fr:∀ f∈M.ag,Lw f
 said:Lu M.said.length
theorem Small.NZ {M:bZ} (h:Small M):Lx M:=by
 obtain⟨h1,h2,h3,h4,h5⟩:=h;refine⟨by unfold Lu;omega,λo ho=>by have:=h4 o ho;unfold Lv Lu;omega,by unfold Lu;omega,λf hf=>by have:=h5 f hf;unfold Lw Lu;omega,by unfold Lu;omega⟩
theorem gJ.pY {h:Heap} {mc:List Value} {M:bZ} {B:List Nat} (ho:gJ h mc M B) (hs:Lx M):RH h mc M:=by
 obtain⟨vo,vf,vs,_,_,_,e,h1,h2,h3,_⟩:=ho;refine⟨vo,vf,vs,e,h1.Ya (.inr (by have:=hs.objs;omega)) λx a C ha hR=>?_,h2.Ya (.inr (by have:=hs.ag;omega)) λx a C ha hR=>?_,Ib h3 (by have:=hs.said;omega)⟩
 ·obtain⟨v,e,o⟩:=hR;exact⟨v,e,vZ o (by have:=hs.ob a ha;unfold Lv at this;omega)⟩
 ·obtain⟨v1,v2,_,_,e,o1,o2,_⟩:=hR;have:=hs.fr a ha;unfold Lw at this;exact⟨v1,v2,e,vZ o1 (by omega),vZ o2 (by omega)⟩
theorem DS (v w:Value) (l:List Int) (h:Heap) (hv:Row 1 NY h v l) (hw:Row 1 NY h w l):Pure prog 28 [v,w] h (.bool true):=by
 have f:=hv.len;obtain⟨p,c,rfl,hc,hn⟩:=f;have f:=hw.len;obtain⟨q,d,rfl,hd,_⟩:=f;refine gN au func28 F28 Zt rfl ?_;conv=>whnf
 refine cF ?_;conv=>whnf
 refine fm [0,1,5] [] (λi:Nat=>i<=l.length) (λi=>l.length-i)
  (λi=>([.v (.slice p l.length c),.v (.slice q l.length d),.v (.int .i64 i)],[],h)) 0 (Nat.zero_le _) rfl ?_
 intro i hi;conv=>whnf
 apply ax<;>intro g;all_goals conv=>whnf
 ·have cG:i < l.length:=by omega
  have e:=hv.get cG;obtain⟨b,off,vs,hp,e1,e2⟩:=e;have e:=hw.get cG;obtain⟨b',dU,ws,hq,d1,d2⟩:=e;have e2':=e2;have d2':=d2;obtain rfl:=e2';obtain rfl:=d2';repeat' ((first|refine aO hp ?_|refine aO hq ?_|refine ld (aK e1 (i:=0) rfl) ?_|refine ld (aK d1 (i:=0) rfl) ?_|refine aj ?_|refine aq ?_)<;>conv=>whnf)
  refine vr rfl ?_;conv=>whnf
  refine aj ?_;conv=>whnf
  exact dm (i+1) (by omega) (by omega) rfl
 ·exact⟨rfl,rfl⟩
theorem Ic {P:Program} {t:TypeId} {f0 f1:Field} {k':IntKind} (a:Bool) (c:Int) (h3:P.underlying t=some (.struct #[f0,f1])) (h4:P.stoodInHeld t=false) (rJ:f0.name≠ "_") (D2:f1.name≠ "_") (h5:P.underlying f0.type=some .bool) (h6:P.underlying f1.type=some (.int k'))
  (HO:∀ w:World,(part f0.type #[.bool a,.int .i64 c] f0.offset).run P w=.ok (.bool a) w) (zD:∀ w:World,(part f1.type #[.bool a,.int .i64 c] f1.offset).run P w=.ok (.int .i64 c) w) (w:World) :
  (Go.binOp .neq t (.agg #[.bool a,.int .i64 c]) (.agg #[.bool a,.int .i64 c])).run P w=.ok (.bool false) w:=by
 have hf:P.fieldsOf t = #[f0,f1]:=by simp[Program.fieldsOf,h3]
 have e1:(Op.equalIn (9999+1) t (.agg #[.bool a,.int .i64 c]) (.agg #[.bool a,.int .i64 c])).run P w=.ok true w:=by
  rw[run_equalIn_struct w 9999 t _ _ (by rw[hf];exact h3) h4,hf];simp only[Op.eqFields,rJ,D2,ne_eq,not_false_eq_true,if_true,Sem.run_bind,HO,zD,Result.andThen_ok];rw[show(9999:Nat)=9998+1 from rfl,run_equalIn_bool' w 9998 f0.type a a h5];simp only[Result.andThen_ok,beq_self_eq_true,Bool.not_true,Bool.false_eq_true,if_false,Sem.run_bind,zD];rw[run_equalIn_int w 9998 f1.type .i64 k' c c h6];simp
 have e3:(Op.equal t (.agg #[.bool a,.int .i64 c]) (.agg #[.bool a,.int .i64 c])).run P w=.ok true w:=e1;rw[show Go.binOp .neq t (.agg #[.bool a,.int .i64 c]) (.agg #[.bool a,.int .i64 c])=(do pure (.bool (!(<-Op.equal t (.agg #[.bool a,.int .i64 c]) (.agg #[.bool a,.int .i64 c])))))from rfl];simp only[Sem.run_bind,e3,Result.andThen_ok,Sem.run_pure];rfl
theorem BR (a:Bool) (c:Int) (w:World):(Go.binOp .neq 33 (.agg #[.bool a,.int .i64 c]) (.agg #[.bool a,.int .i64 c])).run prog w=.ok (.bool false) w:=by
 refine Ic a c rfl ?_ ?_ ?_ rfl rfl ?_ ?_ w
 ·kernel_rfl
 ·decide
 ·decide
 ·intro w;rfl
 ·intro w;rfl
theorem GG {P:Program} {dst:Option Nat} {op:BinOp} {t u:TypeId} {x y:Operand} {ty:TypeId} {pos:String} {af:Array Edge} {g:Option (Nat × Bool)} {e:Env} {Kr:Value->Prop} {a b r:Value}
  (hx:e.get x=.v a) (hy:e.get y=.v b) (h1:∀ w:World,(eqGuard op t x y a b).run P w=.ok () w) (h2:∀ w:World,(Go.binOp op t a b).run P w=.ok r w) (hk:Kr r):Md P ⟨dst,.binOp op t x y u,ty,pos,af,g⟩ e Kr:=by
 refine Mv (v:=r) ?_ ?_ hk
 ·intro z hz;simp only[Op.operands,List.mem_toArray,List.mem_cons,List.not_mem_nil,or_false]at hz;rcases hz with rfl|rfl
  ·exact⟨a,hx⟩
  ·exact⟨b,hy⟩
 ·intro ρ vp w;have e1:=vp x (by simp[Op.operands]);have e2:=vp y (by simp[Op.operands]);rw[hx]at e1;rw[hy]at e2;injection e1 with e1
  injection e2 with e2
  simp only[execOp,<-e1,<-e2];simp only[Sem.run_bind,h1,h2,Result.andThen_ok,Sem.run_pure]
theorem uX (v w:Value) (l:List Vl) (h:Heap) (hv:Row 2 Sd h v l) (hw:Row 2 Sd h w l):Pure prog 26 [v,w] h (.bool true):=by
 have f:=hv.len;obtain⟨p,c,rfl,hc,hn⟩:=f;have f:=hw.len;obtain⟨q,d,rfl,hd,_⟩:=f;refine gN au func26 F26 Zs rfl ?_;conv=>whnf
 refine cF ?_;conv=>whnf
 refine fm [0,1,5] [] (λi:Nat=>i<=l.length) (λi=>l.length-i)
  (λi=>([.v (.slice p l.length c),.v (.slice q l.length d),.v (.int .i64 i)],[],h)) 0 (Nat.zero_le _) rfl ?_
 intro i hi;conv=>whnf
 apply ax<;>intro g;all_goals conv=>whnf
 ·have cG:i < l.length:=by omega
  have e:=hv.get cG;obtain⟨b,off,vs,hp,e1,e2⟩:=e;have e:=hw.get cG;obtain⟨b',dU,ws,hq,d1,d2⟩:=e;have e2':=e2;have d2':=d2;obtain rfl:=e2';obtain rfl:=d2';repeat' ((first|refine aO hp ?_|refine aO hq ?_|refine dK e1 ?_|refine dK d1 ?_|refine aj ?_|refine aq ?_)<;>conv=>whnf)
  refine GG rfl rfl (λw=>by simp[eqGuard]) (λw=>BR _ _ w) ?_;conv=>whnf
  refine aj ?_;conv=>whnf
  exact dm (i+1) (by omega) (by omega) rfl
 ·exact⟨rfl,rfl⟩
theorem DT (v w:Value) (l:List Ob) (h:Heap) (hv:Row 2 ObQ h v l) (hw:Row 2 ObQ h w l):Pure prog 33 [v,w] h (.bool true):=by
 have f:=hv.len;obtain⟨p,c,rfl,hc,hn⟩:=f;have f:=hw.len;obtain⟨q,d,rfl,hd,_⟩:=f;refine gN au func33 F33 Zv rfl ?_;conv=>whnf
 refine cF ?_;conv=>whnf
 refine fm [0,1,5] [] (λi:Nat=>i<=l.length) (λi=>l.length-i)
  (λi=>([.v (.slice p l.length c),.v (.slice q l.length d),.v (.int .i64 i)],[],h)) 0 (Nat.zero_le _) rfl ?_
 intro i hi;conv=>whnf
 apply ax<;>intro g;all_goals conv=>whnf
 ·have cG:i < l.length:=by omega
  have e:=hv.get cG;obtain⟨b,off,vs,hp,e1,e2⟩:=e;have e:=hw.get cG;obtain⟨b',dU,ws,hq,d1,d2⟩:=e;obtain⟨v1,rfl,e3⟩:=e2;obtain⟨w1,rfl,d3⟩:=d2;repeat' ((first|refine aO hp ?_|refine aO hq ?_|refine ld (aK e1 (i:=0) rfl) ?_|refine ld (aK d1 (i:=0) rfl) ?_|refine ld (aK e1 (i:=1) rfl) ?_|refine ld (aK d1 (i:=1) rfl) ?_|refine vr rfl ?_|refine dS (λg=>?_) (λg=>absurd g (by simp))|refine bY (λg=>absurd g (by simp)) (λg=>?_)|refine aT (uX _ _ _ h e3 d3) ?_|refine ay (uX _ _ _ h e3 d3) ?_|refine aj ?_|refine aq ?_|apply And.intro|exact trivial)<;>conv=>whnf)
  exact dm (i+1) (by omega) (by omega) rfl
 ·exact⟨rfl,rfl⟩
theorem oD (x y:List Value) (M:bZ) (h:Heap) (hv:RH h x M) (hw:RH h y M):Pure prog 17 [.agg ⟨x⟩,.agg ⟨y⟩] h (.bool true):=by
 obtain⟨vo,vf,vs,rfl,v1,v2,v3⟩:=hv;obtain⟨wo,wf,ws,rfl,w1,w2,w3⟩:=hw;have f:=v2.len;obtain⟨p,c,rfl,hc,hn⟩:=f;have f:=w2.len;obtain⟨q,d,rfl,hd,_⟩:=f;unfold aB;refine gN au func17 F17 Zp rfl ?_;conv=>whnf
 repeat' ((first|refine vr rfl ?_|refine cF ?_|refine dS (λg=>?_) (λg=>absurd g (by simp))|refine bY (λg=>absurd g (by simp)) (λg=>?_)|refine aT (DT _ _ _ h v1 w1) ?_|refine ay (DT _ _ _ h v1 w1) ?_|refine aT (DS _ _ _ h v3 w3) ?_|refine ay (DS _ _ _ h v3 w3) ?_|refine GG rfl rfl (λw=>by simp[eqGuard]) (λw=>BR _ _ w) ?_|apply And.intro|exact trivial)<;>conv=>whnf)
 refine jd rfl rfl (λw=>by simp[eqGuard]) (λw=>BR _ _ w) ?_;conv=>whnf
 refine fm [2,3,5] [2,3] (λi:Nat=>i<=M.ag.length) (λi=>M.ag.length-i)
  (λi=>([.l 2 0,.l 3 0,.v (.int .i64 i)],[some (aB vo (.slice p M.ag.length c) vs M),some (aB wo (.slice q M.ag.length d) ws M)],h)) 0 (Nat.zero_le _) rfl ?_
 intro i hi;unfold aB;conv=>whnf
 apply ax<;>intro g;all_goals conv=>whnf
 ·have cG:i < M.ag.length:=by omega
  have e:=v2.get cG;obtain⟨b,off,oW,hp,e1,e2⟩:=e;have e:=w2.get cG;obtain⟨b',dU,Ys,hq,d1,d2⟩:=e;obtain⟨x1,x2,rfl,e3,e4⟩:=e2;obtain⟨y1,y2,rfl,d3,d4⟩:=d2;have f:=e3.len;obtain⟨_,_,rfl,_,_⟩:=f;have f:=e4.len;obtain⟨_,_,rfl,_,_⟩:=f;have f:=d3.len;obtain⟨_,_,rfl,_,_⟩:=f;have f:=d4.len;obtain⟨_,_,rfl,_,_⟩:=f;repeat' ((first|refine aO hp ?_|refine aO hq ?_|refine dK e1 ?_|refine dK d1 ?_|refine vr rfl ?_|refine dS (λg=>?_) (λg=>absurd g (by simp))|refine bY (λg=>absurd g (by simp)) (λg=>?_)|refine ay (uX _ _ _ h e3 d3) ?_|refine ay (uX _ _ _ h e4 d4) ?_|refine aj ?_|refine aq ?_|apply And.intro|exact trivial)<;>conv=>whnf)
  exact dm (i+1) (by omega) (by omega) rfl
 ·exact⟨rfl,rfl⟩
theorem wO {h:Heap} {v:Value} {n:Nat} (hB:Bytes h v n):∃ hs:Heap,hs.le h/\Bytes hs v n/\Pa hs:=by
 obtain⟨p,c,rfl,hc,hB⟩:=hB;by_cases h0:n=0
 ·exact⟨λ_=>none,λb o hx=>(nomatch hx),⟨p,c,rfl,hc,.inl h0⟩,λb cs t z hx=>(nomatch hx)⟩
 ·rcases hB with hB|⟨b,off,rfl,hB⟩
  ·exact absurd hB h0
  ·refine⟨λx=>if x=b then h b else none,λx o hx=>?_,⟨_,c,rfl,hc,.inr ⟨b,off,rfl,λi hi=>?_⟩⟩,λx cs t z hx=>?_⟩
   ·by_cases e:x=b
    ·simp only[e,if_true]at hx ⊢;exact hx
    ·simp only[e,if_false]at hx;cases hx
   ·obtain⟨y,h1,h2⟩:=hB i hi;refine⟨y,?_,h2⟩;unfold rd at h1 ⊢;simp only[if_true];exact h1
   ·by_cases e:x=b
    ·simp only[e,if_true]at hx;obtain⟨y,h1,_⟩:=hB 0 (by omega);simp only[rd,hx]at h1;exact⟨off+0,y,h1⟩
    ·simp only[e,if_false]at hx;cases hx
theorem DU {P:Program} {f:FuncId} {args:List Value} {gs g:Heap} {x:Value} (hl:gs.le g) (hc:Pure P f args gs x):Pure P f args g x:=by
 refine bI.mono (DR hl hc) λv h' hh=>?_;obtain⟨hs,⟨rfl,rfl⟩,k1,k2,_⟩:=hh;refine⟨rfl,funext λy=>?_⟩;cases e:hs y with
 | some o=>rw[k2 y (.inl (by rw[e];simp)),e,hl y o e]
 | none =>
  cases e2:g y with
  | none=>rw[k2 y (.inr e2),e]
  | some o=>rw[k1 y e (by rw[e2];simp),e2]
end Go.Proofs
