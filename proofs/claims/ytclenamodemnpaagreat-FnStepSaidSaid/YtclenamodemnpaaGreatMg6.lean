/- Part 6 of the lemmas on which the law rests: what functions of the program and of the reference do; no conditions but those that each lemma states. -/
import Derived.Test.YtclenamodemnpaaGreatMg5
set_option linter.unusedSimpArgs false
set_option linter.unusedVariables false
namespace Go.Proofs
open Go.Vc Go.Proofs.Tryz
set_option maxRecDepth 100000
set_option maxHeartbeats 4000000
theorem aaI {h0 h:Heap} {bx:Nat} {us:List Value} {u:aU} {x:Sx} {B:List Nat} (hX:XS h0 h bx us u x B) (hs:kU u x) (op:Int) :
  bI prog 178 [.pointer (some ⟨bx,0,none⟩),.int .i64 op] h λ_ h'=>XR h0 h bx us u B (JZ x op) h':=by
 have jW:=hs.word.1;have zl:=jW.word.1;refine bS au func178 Ui Uj rfl ?_;conv=>whnf
 refine aD (nC hX hs) (λv h1 hh=>?_);have hv:=hh.1;subst hv;refine hh.2.elim λB1 gj=>?_;conv=>whnf
 refine aD (nC gj.1 jW) (λv h2 hh=>?_);have hv:=hh.1;subst hv;refine hh.2.elim λB2 fU=>?_;have gP:=gj.2.1.trans fU.2.1;have e2:=fU.2.2.trans gj.2.2;have oE:=fU.1;conv=>whnf
 refine ay (I9 _ _ _ _) ?_;unfold RP;conv=>whnf
 apply bY<;>intro g;all_goals conv=>whnf
 ·refine aD (j7 oE 1) (λv h3 hh=>?_);conv=>whnf
  have yt:JZ x op=cz (aC (aC x).2).2 1:=if_neg (by rw[g];simp);rw[yt];exact hh.trans gP e2
 ·refine ay (nY _ _) ?_;conv=>whnf
  refine aD (mE oE (by have:=zl.nf;omega) (by have:=zl.jy.2.2.2.1;omega) ⟨false,(gS op (aC (aC x).2).1 (aC x).1).1⟩) (λv h3 hh=>?_);conv=>whnf
  have yt:JZ x op=dg (aC (aC x).2).2 ⟨false,(gS op (aC (aC x).2).1 (aC x).1).1⟩:=if_pos g;rw[yt];exact hh.trans gP e2
theorem M3 {h0 h:Heap} {bx:Nat} {us:List Value} {u:aU} {x:Sx} {B:List Nat} (hX:XS h0 h bx us u x B) (hs:kU u x) (k:Int) (hk:k=0\/k=1) :
  bI prog 180 [.pointer (some ⟨bx,0,none⟩),.int .i64 k] h λ_ h'=>XR h0 h bx us u B (nB x k) h':=by
 have fI:=hX.ma.in;have hle:=hX.ma.le;have jW:=hs.word.1;have hwd:=hs.word.2;have Ow:nB x k=jq (if 0<=(aC x).1/\(aC x).1<=6 then (aC x).2 else cz (aC x).2 4) (mD k (aC x).1):=rfl;rw[Ow];refine bS au func180 Um Un rfl ?_;conv=>whnf
 refine aD (nC hX hs) (λv h1 hh=>?_);have hv:=hh.1;subst hv;refine hh.2.elim λB1 gj=>?_;have fe:=gj.1;have fD:=gj.2.1;have e1:=gj.2.2;conv=>whnf
 refine ay (er _ _ _ _) ?_;conv=>whnf
 apply aV<;>intro g;all_goals conv=>whnf
 ·refine aD (j7 fe 4) (λv h2 hh=>?_);refine hh.elim λB2 fU=>?_;have oE:=fU.1;have gP:=fD.trans fU.2.1;have e2:=fU.2.2.trans e1;have zl:=jW.Wt (k:=4) (by omega);rw[if_neg g];conv=>whnf
  have hm:(mD k (aC x).1).bE.length=(min (aC x).1 6).toNat:=by simp[mD]
  have E0:(mD k (aC x).1).cls = -1-k:=rfl;generalize hwn:(aC x).1=n at hm E0 hwd g ⊢;obtain⟨m,Qi⟩:∃ m,m=(min n 6).toNat:=⟨_,rfl⟩
  have J3:(mD k n).bE=List.replicate m ⟨decide (k=1),0⟩:=by rw[Qi];rfl
  refine aj ?_;conv=>whnf
  refine fm [0,1,4,5,6] [5] (λs:Nat × Heap × Option Addr × Nat × List Nat=>s.1<=m/\h2.le s.2.1/\cq s.2.1 (.slice s.2.2.1 s.1 s.2.2.2.1) (List.replicate s.1 ⟨decide (k=1),0⟩) s.2.2.2.2/\∀ b∈s.2.2.2.2,h2 b=none) (λs=>m-s.1)
   (λs=>([.v (.pointer (some ⟨bx,0,none⟩)),.v (.int .i64 k),.v (.int .i64 n),.l 5 0,.v (.int .i64 s.1)],[some [.int .i64 (-1-k),.slice s.2.2.1 s.1 s.2.2.2.1]],s.2.1))
   (0,h2,none,0,[]) ⟨by omega,Heap.le_refl h2,⟨by simp,.inl ⟨rfl,by simp,rfl⟩⟩,by simp⟩ rfl ?_
  rintro⟨i,h5,pp,c,Bv⟩ ⟨hi,l1,ov,nv⟩;simp only at hi l1 ov nv ⊢;conv=>whnf
  have step:i < m->App 16 2 [.bool false,.int .i64 0] 33 h5 pp i c 1 [.bool (decide (k=1)),.int .i64 0] (λv' h6=>∃ p' c',v'=.slice p' (i+1) c'/\∃ B6,h2.le h6/\cq h6 (.slice p' (i+1) c') (List.replicate (i+1) ⟨decide (k=1),0⟩) B6/\∀ b∈B6,h2 b=none):=by
   intro DW;have hli:((List.replicate i (⟨decide (k=1),0⟩:Vl)).map bR).length=i:=by simp
   refine cY (h0:=h2) (ys:=[bR ⟨decide (k=1),0⟩]) ov nv l1 rfl rfl (by simp[bR]) rfl rfl (by simp;omega) (by simp;omega) ?_;intro v' h6 B6 g1 g2 g3 g4 g5;have zy:cq h6 v' (List.replicate (i+1) ⟨decide (k=1),0⟩) B6:=by
    unfold cq;rw[List.replicate_succ',List.map_append];exact g2
   obtain⟨p',c',rfl,_⟩:=zy.form;have AX:((List.replicate (i+1) (⟨decide (k=1),0⟩:Vl)).map bR).length=i+1:=by simp
   rw[AX]at zy ⊢;exact⟨p',c',rfl,B6,g1,zy,g3⟩
  by_cases DW:i < m
  ·refine b8 ?_;conv=>whnf
   refine b8 ?_;conv=>whnf
   refine(step DW).mono (λv' h6 hh=>?_);refine hh.elim λp' hh=>hh.elim λc' hh=>?_;have hv:=hh.1;subst hv;refine hh.2.elim λB6 hh=>?_;conv=>whnf
   refine aj ?_;conv=>whnf
   exact dm (i+1,h6,p',c',B6) ⟨by omega,hh⟩ (by simp only;omega) rfl
  ·have nV:i=m:=by omega
   subst nV;have fin:∀ {v:Value} {h9:Heap},(∃ B',XS h0 h9 bx us u (jq (cz (aC x).2 4) (mD k n)) B'/\Ev h5 h9 ((bx::B2)++Bv) (bx::B')/\rd h9 bx 3=rd h5 bx 3)->XR h0 h bx us u B (jq (cz (aC x).2 4) (mD k n)) h9:=by
    intro v h9 hh;obtain⟨B9,k1,k2,k3⟩:=hh;obtain⟨_,_,k4⟩:=XM.mono oE l1;refine⟨B9,k1,gP.trans ((Ev.of_le l1 ((bx::B2)++Bv) (λb bz=>(List.mem_append.1 bz).imp id (nv b))).trans k2),k3.trans (k4.trans e2)⟩
   have sR:∀ b∈Bv,b ∉ bx::B2/\h0 b=none:=by
    intro b bz;have hn:=nv b bz;refine⟨λhx=>?_,?_⟩
    ·obtain⟨o,ho⟩:=oE.ma.in b hx;rw[hn]at ho;cases ho
    ·cases hh:h0 b with
     | none=>rfl
     | some o=>rw[oE.ma.le b o hh]at hn;cases hn
   have ov':cq h5 (.slice pp i c) (mD k n).bE Bv:=by rw[J3];exact ov
   have yz:=EZ (XM.mono oE l1).1 zl (mD k n) ov' sR;rw[show(mD k n).cls = -1-k from rfl]at yz;by_cases x6:(i:Int) < n
   ·refine fX x6 ?_;conv=>whnf
    refine bL ?_;conv=>whnf
    refine aD yz (λv h9 hh=>?_);conv=>whnf
    exact fin (v:=v) hh
   ·refine cy x6 ?_;conv=>whnf
    refine aD yz (λv h9 hh=>?_);conv=>whnf
    exact fin (v:=v) hh
 ·rw[if_pos g];have hm:(mD k (aC x).1).bE.length=(min (aC x).1 6).toNat:=by simp[mD]
  have E0:(mD k (aC x).1).cls = -1-k:=rfl;generalize hwn:(aC x).1=n at hm E0 hwd g ⊢;obtain⟨m,Qi⟩:∃ m,m=(min n 6).toNat:=⟨_,rfl⟩
  have J3:(mD k n).bE=List.replicate m ⟨decide (k=1),0⟩:=by rw[Qi];rfl
  refine aj ?_;conv=>whnf
  refine fm [0,1,4,5,6] [5] (λs:Nat × Heap × Option Addr × Nat × List Nat=>s.1<=m/\h1.le s.2.1/\cq s.2.1 (.slice s.2.2.1 s.1 s.2.2.2.1) (List.replicate s.1 ⟨decide (k=1),0⟩) s.2.2.2.2/\∀ b∈s.2.2.2.2,h1 b=none) (λs=>m-s.1)
   (λs=>([.v (.pointer (some ⟨bx,0,none⟩)),.v (.int .i64 k),.v (.int .i64 n),.l 5 0,.v (.int .i64 s.1)],[some [.int .i64 (-1-k),.slice s.2.2.1 s.1 s.2.2.2.1]],s.2.1))
   (0,h1,none,0,[]) ⟨by omega,Heap.le_refl h1,⟨by simp,.inl ⟨rfl,by simp,rfl⟩⟩,by simp⟩ rfl ?_
  rintro⟨i,h5,pp,c,Bv⟩ ⟨hi,l1,ov,nv⟩;simp only at hi l1 ov nv ⊢;conv=>whnf
  have step:i < m->App 16 2 [.bool false,.int .i64 0] 33 h5 pp i c 1 [.bool (decide (k=1)),.int .i64 0] (λv' h6=>∃ p' c',v'=.slice p' (i+1) c'/\∃ B6,h1.le h6/\cq h6 (.slice p' (i+1) c') (List.replicate (i+1) ⟨decide (k=1),0⟩) B6/\∀ b∈B6,h1 b=none):=by
   intro DW;have hli:((List.replicate i (⟨decide (k=1),0⟩:Vl)).map bR).length=i:=by simp
   refine cY (h0:=h1) (ys:=[bR ⟨decide (k=1),0⟩]) ov nv l1 rfl rfl (by simp[bR]) rfl rfl (by simp;omega) (by simp;omega) ?_;intro v' h6 B6 g1 g2 g3 g4 g5;have zy:cq h6 v' (List.replicate (i+1) ⟨decide (k=1),0⟩) B6:=by
    unfold cq;rw[List.replicate_succ',List.map_append];exact g2
   obtain⟨p',c',rfl,_⟩:=zy.form;have AX:((List.replicate (i+1) (⟨decide (k=1),0⟩:Vl)).map bR).length=i+1:=by simp
   rw[AX]at zy ⊢;exact⟨p',c',rfl,B6,g1,zy,g3⟩
  by_cases DW:i < m
  ·refine b8 ?_;conv=>whnf
   refine b8 ?_;conv=>whnf
   refine(step DW).mono (λv' h6 hh=>?_);refine hh.elim λp' hh=>hh.elim λc' hh=>?_;have hv:=hh.1;subst hv;refine hh.2.elim λB6 hh=>?_;conv=>whnf
   refine aj ?_;conv=>whnf
   exact dm (i+1,h6,p',c',B6) ⟨by omega,hh⟩ (by simp only;omega) rfl
  ·have nV:i=m:=by omega
   subst nV;have fin:∀ {v:Value} {h9:Heap},(∃ B',XS h0 h9 bx us u (jq (aC x).2 (mD k n)) B'/\Ev h5 h9 ((bx::B1)++Bv) (bx::B')/\rd h9 bx 3=rd h5 bx 3)->XR h0 h bx us u B (jq (aC x).2 (mD k n)) h9:=by
    intro v h9 hh;obtain⟨B9,k1,k2,k3⟩:=hh;obtain⟨_,_,k4⟩:=XM.mono fe l1;refine⟨B9,k1,fD.trans ((Ev.of_le l1 ((bx::B1)++Bv) (λb bz=>(List.mem_append.1 bz).imp id (nv b))).trans k2),k3.trans (k4.trans e1)⟩
   have sR:∀ b∈Bv,b ∉ bx::B1/\h0 b=none:=by
    intro b bz;have hn:=nv b bz;refine⟨λhx=>?_,?_⟩
    ·obtain⟨o,ho⟩:=fe.ma.in b hx;rw[hn]at ho;cases ho
    ·cases hh:h0 b with
     | none=>rfl
     | some o=>rw[fe.ma.le b o hh]at hn;cases hn
   have ov':cq h5 (.slice pp i c) (mD k n).bE Bv:=by rw[J3];exact ov
   have yz:=EZ (XM.mono fe l1).1 jW (mD k n) ov' sR;rw[show(mD k n).cls = -1-k from rfl]at yz;by_cases x6:(i:Int) < n
   ·refine fX x6 ?_;conv=>whnf
    refine bL ?_;conv=>whnf
    refine aD yz (λv h9 hh=>?_);conv=>whnf
    exact fin (v:=v) hh
   ·refine cy x6 ?_;conv=>whnf
    refine aD yz (λv h9 hh=>?_);conv=>whnf
    exact fin (v:=v) hh
theorem kU.Bq {u:aU} {x:Sx} (h:kU u x):x.fs.length<=1000:=by have:=h.nf;omega
theorem kU.xl {u:aU} {x:Sx} (h:kU u x):x.f.stack.length<=1000:=by have:=h.jy.2.2.2.1;omega
theorem Qz {h0 h:Heap} {bx:Nat} {us:List Value} {u:aU} {x:Sx} {B:List Nat} (hX:XS h0 h bx us u x B) (hs:kU u x) :
  bI prog 181 [.pointer (some ⟨bx,0,none⟩)] h λ_ h'=>XR h0 h bx us u B (sy x) h':=by
 have jW:=hs.ref;have hsz:sy x=if 0 < (aE x).1/\(aE x).2.st=false/\0<=(aF (aE x).2.objs (aE x).1).cls then { (aE x).2 with st:=true}else if (aE x).1=0 then cz (aE x).2 2 else dg (aE x).2 ⟨false,(aF (aE x).2.objs (aE x).1).bE.length⟩:=rfl
 have u0:(aE x).2.objs.length=x.objs.length:=by rw[(jK x).2.1]
 have hlen:=hs.len.2;rw[hsz];clear hsz;have Hq:=wG hX hs;generalize hn:(aE x).1=n at jW Hq ⊢;generalize hy:(aE x).2=y at jW Hq u0 ⊢;refine bS au func181 Uo Up rfl ?_;conv=>whnf
 refine aD Hq (λv h1 hh=>?_);have hv:=hh.1;subst hv;refine hh.2.elim λB1 gj=>?_;have fe:=gj.1;have fD:=gj.2.1;have e1:=gj.2.2;have r9:=fe.kT.1;conv=>whnf
 by_cases rJ:n=0
 ·rw[if_neg (by omega),if_pos rJ];refine bL ?_;conv=>whnf
  repeat' ((first|refine b8 ?_|refine bL ?_)<;>conv=>whnf)
  refine aD (j7 fe 2) (λv h3 hh=>?_);conv=>whnf
  exact hh.trans fD e1
 ·have D2:0 < n:=by omega
  refine(fe.jF D2 (by omega)).elim λbo hq=>hq.elim λco hq=>hq.elim λvv hq=>hq.elim λBi hq=>?_;have q1:=hq.1;have q3:=hq.2.1;have q2:=hq.2.2.1;have ov:=hq.2.2.2.1;refine ov.form.elim λpv hf=>hf.elim λcv hf=>?_;have hv:=hf.1;subst hv;have LZ:=dY bR (aF y.objs n).bE;refine fX D2 ?_;conv=>whnf
  refine ld r9 ?_;conv=>whnf
  have push:∀ {z:Sx},z=dg y ⟨false,(aF y.objs n).bE.length⟩->bI prog 175 [.pointer (some ⟨bx,0,none⟩),ON ⟨false,((List.map bR (aF y.objs n).bE).length:Int)⟩] h1 λ_ h'=>XR h0 h bx us u B z h':=λhz=>by
   rw[hz,LZ];exact(mE fe jW.1.Bq jW.1.xl _).mono (λ_ _ hh=>hh.trans fD e1)
  apply bY<;>intro g;all_goals conv=>whnf
  ·repeat' ((first|refine ld q1 ?_|refine ld q3 ?_|refine aq ?_|refine aj ?_|refine ptr ?_)<;>conv=>whnf)
   apply ax<;>intro gc;all_goals conv=>whnf
   ·rw[if_pos ⟨D2,g,gc⟩];refine fe.stuck (λh2 oE gP e2=>?_);conv=>whnf
    exact⟨B1,oE,fD.trans gP,e2.trans e1⟩
   ·rw[if_neg (λhx=>gc hx.2.2),if_neg rJ];refine cy rJ ?_;conv=>whnf
    repeat' ((first|refine ld q1 ?_|refine ld q2 ?_|refine aq ?_|refine aj ?_|refine ptr ?_)<;>conv=>whnf)
    refine ay (nY _ _) ?_;conv=>whnf
    refine aD (push rfl) (λv h3 hh=>?_);conv=>whnf
    exact hh
  ·rw[if_neg (λhx=>by rw[g]at hx;cases hx.2.1),if_neg rJ];refine cy rJ ?_;conv=>whnf
   repeat' ((first|refine ld q1 ?_|refine ld q2 ?_|refine aq ?_|refine aj ?_|refine ptr ?_)<;>conv=>whnf)
   refine ay (nY _ _) ?_;conv=>whnf
   refine aD (push rfl) (λv h3 hh=>?_);conv=>whnf
   exact hh
theorem Hr (h:Heap) (bo n c:Nat) (k cls:Int) (hr:rd h bo (0+(k-1).toNat*2)=some (.int .i64 cls)) (hk:0 < k/\k<=n) (hn:n<=1000) (hc : -2<=cls/\cls<=900) :
  Pure prog 61 [.slice (some ⟨bo,0,none⟩) n c,.agg #[.bool true,.int .i64 k]] h (.int .i64 (typeOf cls)):=by
 refine gN au func61 F61 ZM rfl ?_;conv=>whnf
 refine bL ?_;conv=>whnf
 repeat' ((first|refine ld hr ?_|refine aq ?_|refine aj ?_|refine ptr ?_)<;>conv=>whnf)
 unfold typeOf;by_cases h1:cls = -1
 ·subst h1;repeat' ((first|refine b8 ?_|refine bL ?_|refine cU ?_|refine cF ?_|apply ax<;>intro _|apply aV<;>intro _|apply dS<;>intro _|apply bY<;>intro _|refine aq ?_|refine aj ?_|refine ptr ?_)<;>conv=>whnf)
  exact⟨rfl,rfl⟩
 ·by_cases h2:cls = -2
  ·subst h2;repeat' ((first|refine b8 ?_|refine bL ?_|refine cU ?_|refine cF ?_|apply ax<;>intro _|apply aV<;>intro _|apply dS<;>intro _|apply bY<;>intro _|refine aq ?_|refine aj ?_|refine ptr ?_)<;>conv=>whnf)
   exact⟨rfl,rfl⟩
  ·rw[if_neg h1,if_neg h2];repeat' ((first|refine b8 ?_|refine bL ?_|refine cU ?_|refine cF ?_|apply ax<;>intro _|apply aV<;>intro _|apply dS<;>intro _|apply bY<;>intro _|refine aq ?_|refine aj ?_|refine ptr ?_|refine ld hr ?_)<;>conv=>whnf)
   all_goals first|(exfalso;omega)|exact⟨rfl,rfl⟩
theorem QA {h0 h:Heap} {bx:Nat} {us:List Value} {u:aU} {x:Sx} {B:List Nat} (hX:XS h0 h bx us u x B) (hs:kU u x) (ok:cj u.J) (k:Int) (hk:0<=k/\k < u.J.length) :
  bI prog 184 [.pointer (some ⟨bx,0,none⟩),.int .i64 k] h λ_ h'=>XR h0 h bx us u B (sA u x k) h':=by
 have jW:=hs.ref;have hsz:sA u x k=if (aE x).2.st=true then (aE x).2 else if 0 < (aE x).1/\ju u.J (typeOf (aF (aE x).2.objs (aE x).1).cls) (8+k)=false then cz (aE x).2 5 else dg (aE x).2 ⟨true,(aE x).1⟩:=rfl
 have u0:(aE x).2.objs.length=x.objs.length:=by rw[(jK x).2.1]
 have hlen:=hs.len.2;have zm:=ok.2.1;rw[hsz];clear hsz;have Hq:=wG hX hs;generalize hn:(aE x).1=n at jW Hq ⊢;generalize hy:(aE x).2=y at jW Hq u0 ⊢;refine bS au func184 Uq Ur rfl ?_;conv=>whnf
 refine aD Hq (λv h1 hh=>?_);have hv:=hh.1;subst hv;refine hh.2.elim λB1 gj=>?_;have fe:=gj.1;have fD:=gj.2.1;have e1:=gj.2.2;refine fe.kT.2.2.2.2.2.elim λp hr=>hr.elim λcc hr=>hr.elim λq hr=>hr.elim λd hr=>?_;have r9:=fe.kT.1;have r0:=hr.2.1;have hcs:=hr.2.2.2.2.1;conv=>whnf
 refine ld r9 ?_;conv=>whnf
 apply dS<;>intro g;all_goals conv=>whnf
 ·rw[if_pos g];exact⟨B1,fe,fD,e1⟩
 rw[if_neg (by rw[g];simp)];by_cases rJ:n=0
 ·rw[if_neg (by omega)];refine bL ?_;conv=>whnf
  refine ay (mF _ _) ?_;conv=>whnf
  refine aD (mE fe jW.1.Bq jW.1.xl ⟨true,n⟩) (λv h3 hh=>?_);conv=>whnf
  exact hh.trans fD e1
 ·have D2:0 < n:=by omega
  refine(fe.jF D2 (by omega)).elim λbo hq=>hq.elim λco hq=>hq.elim λvv hq=>hq.elim λBi hq=>?_;have q1:=hq.1;have q3:=hq.2.1;have hO:=jW.1.zk _ (iw (objs:=y.objs) D2 (by omega));have lq : -2<=(aF y.objs n).cls/\(aF y.objs n).cls < u.J.length:=by
   rcases hO.2 with ⟨h2,_⟩|⟨h2,h3,_⟩
   ·have:=ok.1;omega
   ·omega
  have Mg:=Hr h1 bo y.objs.length co n (aF y.objs n).cls q3 ⟨D2,by omega⟩ (by omega) (by omega);have Il:typeOf (aF y.objs n).cls < 8+u.J.length:=by unfold typeOf;repeat' split;all_goals omega
  have fI:=vG p u.J.length cc u.J (typeOf (aF y.objs n).cls) (8+k) h1 hcs ok Il (by omega);refine fX D2 ?_;conv=>whnf
  repeat' ((first|refine ld r0 ?_|refine ld q1 ?_|refine aT (mF _ _) ?_|refine aT Mg ?_|refine aT fI ?_|refine aq ?_|refine aj ?_|refine ptr ?_)<;>conv=>whnf)
  apply bY<;>intro gt;all_goals conv=>whnf
  ·rw[if_pos ⟨D2,gt⟩];refine aD (j7 fe 5) (λv h3 hh=>?_);conv=>whnf
   exact hh.trans fD e1
  ·rw[if_neg (λhx=>by rw[gt]at hx;cases hx.2)];refine ay (mF _ _) ?_;conv=>whnf
   refine aD (mE fe jW.1.Bq jW.1.xl ⟨true,n⟩) (λv h3 hh=>?_);conv=>whnf
   exact hh.trans fD e1
theorem ku {u:aU} {x:Sx} {n k:Int} (hs:kU u x) (h:¬(bB u x n k).bad):fq u (aF x.objs n).cls k=false:=by
 unfold bB at h;split at h
 ·rename_i U;exact absurd U h
 ·rename_i U;have wV:x.ft=0:=by
   have:=hs.ft;have:¬0 < x.ft:=λhx=>U (.inr hx);omega
  split at h
  ·refine absurd ?_ h;unfold cz Sx.bad;rw[if_pos wV];exact .inr (by show(0:Int) < 2;omega)
  ·split at h
   ·exact absurd (.inl rfl) h
   ·rename_i h2;simpa using h2
theorem XS.Br {h0 h:Heap} {bx:Nat} {us:List Value} {u:aU} {y:Sx} {B:List Nat} (hX:XS h0 h bx us u y B) {n:Int} (rJ:0 < n) (hle:n<=y.objs.length) {i:Nat} (hi:i < (aF y.objs n).bE.length) :
  ∃ bo c bv cv,rd h bx 2=some (.slice (some ⟨bo,0,none⟩) y.objs.length c)/\rd h bo (0+(n-1).toNat*2+1)=some (.slice (some ⟨bv,0,none⟩) (List.map bR (aF y.objs n).bE).length cv)/\eG h bv (0+i*2) 2=some (bR ((aF y.objs n).bE.getD i cJ)) /\
   ∀(v:Vl) (K:Heap->Prop),(∀ h',XR h0 h bx us u B {y with objs:=iQ y.objs n ((aF y.objs n).bE.set i v)} h'->K h')->St h bv (0+i*2) [.bool v.ref,.int .i64 v.n] K:=by
 obtain⟨bo,c,v,Bi,q1,q3,q2,ov,eF⟩:=hX.jF rJ hle;obtain⟨pv,cv,rfl,_⟩:=ov.form;obtain⟨b0,e0,r0,_,_,_⟩:=ov.two hi;obtain⟨bv,pre,xx,post,tt,EO,_,P5,fV,zh,rfl,A1⟩:=cn.put ov hi;rw[EO]at e0;simp only[Option.some.injEq,Addr.mk.injEq,and_true]at e0;subst e0;subst EO;refine⟨bo,c,bv,cv,q1,q2,by rw[rE hi];exact r0,λv K hk=>?_⟩;have hw:ep (pre++xx++post) (0+i*2) [.bool v.ref,.int .i64 v.n]=pre++bR v++post:=mg (by omega) (by rw[zh];rfl);refine z7 P5 (pre++bR v++post) (by simp[zh,bR,fV]<;>omega) hw (λh' e1 g1=>?_);exact hk h' (eF h' _ (A1 _ v g1) (λb U _=>by rw[e1];simp only[Heap.set];rw[if_neg (by simpa using U)]))
theorem E1 {h0 h:Heap} {bx:Nat} {us:List Value} {u:aU} {x:Sx} {B:List Nat} (hX:XS h0 h bx us u x B) (hs:kU u x) (ok:cj u.J) (k:Int) (hk:k=0\/k=1) :
  bI prog 182 [.pointer (some ⟨bx,0,none⟩),.int .i64 k,.bool true] h λ_ h'=>XR h0 h bx us u B (uy u x k true) h':=by
 have J4:uy u x k true=if (bB u (aE (aC (aY x).2).2).2 (aE (aC (aY x).2).2).1 (-1-k)).bad then bB u (aE (aC (aY x).2).2).2 (aE (aC (aY x).2).2).1 (-1-k)else if ¬(0<=(aC (aY x).2).1/\(aC (aY x).2).1 < (aF (bB u (aE (aC (aY x).2).2).2 (aE (aC (aY x).2).2).1 (-1-k)).objs (aE (aC (aY x).2).2).1).bE.length)then cz (bB u (aE (aC (aY x).2).2).2 (aE (aC (aY x).2).2).1 (-1-k)) 3 else Ho (bB u (aE (aC (aY x).2).2).2 (aE (aC (aY x).2).2).1 (-1-k)) (aE (aC (aY x).2).2).1 (aC (aY x).2).1 (aY x).1:=rfl
 rw[J4];refine bS au func182 PN N9 rfl ?_;conv=>whnf
 refine aD (yx hX hs.Bq hs.xl) (λv h1 hh=>?_);have hv:=hh.1;subst hv;refine hh.2.elim λB1 gj=>?_;have fe:=gj.1;have fD:=gj.2.1;have e1:=gj.2.2;have jW:=hs.pop.1;have RT:=hs.pop.2;have QB:(aY x).2.objs=x.objs:=(lA x).2.1;rw[<-QB]at RT;conv=>whnf
 refine aD (nC fe jW) (λv h2 hh=>?_);have hv:=hh.1;subst hv;refine hh.2.elim λB2 fU=>?_;have oE:=fU.1;have gP:=fD.trans fU.2.1;have e2:=fU.2.2.trans e1;have zl:=jW.word;conv=>whnf
 refine aD (wG oE zl.1) (λv h3 hh=>?_);have hv:=hh.1;subst hv;refine hh.2.elim λB3 jj=>?_;have kL:=jj.1;have rT:=gP.trans jj.2.1;have e3:=jj.2.2.trans e2;have rW:=kU.ref zl.1;conv=>whnf
 refine aj ?_;conv=>whnf
 refine aD (uA kL rW.1 ok _ (-1-k) (by rw[(jK _).2.1];exact rW.2) (by omega)) (λv h4 hh=>?_);refine hh.2.1.elim λbn hv=>hv.elim λon hv=>?_;subst hv;refine hh.1.elim λB4 wU=>?_;have lB:=wU.1;have nZ:=hh.2.2;have zj:=rT.trans wU.2.1;have e4:=wU.2.2.trans e3;by_cases dh:(bB u (aE (aC (aY x).2).2).2 (aE (aC (aY x).2).2).1 (-1-k)).bad
 ·rw[if_pos dh];have r9:=lB.kT.1;have gV:=lB.kT.2.1;conv=>whnf
  refine ld r9 ?_;conv=>whnf
  apply dS<;>intro g;all_goals conv=>whnf
  ·exact⟨B4,lB,zj,e4⟩
  ·refine ld gV ?_;conv=>whnf
   refine fX (dh.resolve_left (by rw[g];simp)) ?_;conv=>whnf
   exact⟨B4,lB,zj,e4⟩
 rw[if_neg dh];have hg:=nZ dh;have rJ:=hg.1;have dD:=hg.2.1;have sH:=ku rW.1 dh;refine hg.2.2.elim λbo hg=>hg.elim λco hg=>?_;have mS:=hg.1;have hp:=hg.2;simp only[Value.pointer.injEq,Option.some.injEq,Addr.mk.injEq,and_true]at hp;have zD:=hp.1;have E2:=hp.2;subst zD;subst E2;rw[dD]at dh lB ⊢;have dZ:(aE (aC (aY x).2).2).2.st=false:=by
  cases hh:(aE (aC (aY x).2).2).2.st with
  | false=>rfl
  | true=>exact absurd (.inl hh) dh
 have wV:(aE (aC (aY x).2).2).2.ft=0:=by
  have h1:=rW.1.ft;have h2:¬0 < (aE (aC (aY x).2).2).2.ft:=λhx=>dh (.inr hx);omega
 have r9:=lB.kT.1;have gV:=lB.kT.2.1;rw[dZ]at r9;rw[wV]at gV;conv=>whnf
 repeat' ((first|refine ld r9 ?_|refine ld gV ?_|refine aq ?_|refine aj ?_|refine ptr ?_)<;>conv=>whnf)
 have hle:(aE (aC (aY x).2).2).1<=(aE (aC (aY x).2).2).2.objs.length:=by rw[(jK _).2.1];exact rW.2.2
 refine(lB.jF rJ hle).elim λYB hq=>hq.elim λRX hq=>hq.elim λvv hq=>hq.elim λBi hq=>?_;have pF:=hq.1;rw[mS]at pF;simp only[Option.some.injEq,Value.slice.injEq,Addr.mk.injEq,and_true,true_and]at pF;have eX:=pF.1;subst eX;have q2:=hq.2.2.1;have ov:=hq.2.2.2.1;have eF:=hq.2.2.2.2;have hO:=rW.1.zk _ (iw rJ hle);refine ov.form.elim λpv hf=>hf.elim λcv hf=>?_;have hv:=hf.1;subst hv;have LZ:=dY bR (aF (aE (aC (aY x).2).2).2.objs (aE (aC (aY x).2).2).1).bE;have hv8:(aF (aE (aC (aY x).2).2).2.objs (aE (aC (aY x).2).2).1).bE.length<=8:=by
  rcases hO.2 with ⟨_,h2⟩|⟨_,h3,h4⟩
  ·omega
  ·rw[h4];exact fH ok h3
 repeat' ((first|refine ld q2 ?_|refine aq ?_|refine aj ?_|refine ptr ?_)<;>conv=>whnf)
 refine ay (er _ _ _ _) ?_;conv=>whnf
 by_cases Ww:0<=(aC (aY x).2).1/\(aC (aY x).2).1 < (aF (aE (aC (aY x).2).2).2.objs (aE (aC (aY x).2).2).1).bE.length
 rotate_left
 ·rw[if_pos Ww];apply aV<;>intro g;all_goals conv=>whnf
  ·refine aD (j7 lB 3) (λv h9 hh=>?_);conv=>whnf
   exact hh.trans zj e4
  ·exfalso;omega
 rw[if_neg (by simpa using Ww)];apply aV<;>intro g;all_goals conv=>whnf
 ·exfalso;omega
 have QC:((aC (aY x).2).1).toNat < (aF (aE (aC (aY x).2).2).2.objs (aE (aC (aY x).2).2).1).bE.length:=by omega
 refine(lB.Br rJ hle QC).elim λbo3 hz=>hz.elim λQD hz=>hz.elim λbv hz=>hz.elim λcv3 hz=>?_;have z1:=hz.1;have z2:=hz.2.1;have z3:=hz.2.2.1;have z4:=hz.2.2.2;rw[mS]at z1;simp only[Option.some.injEq,Value.slice.injEq,Addr.mk.injEq,and_true,true_and]at z1;have zb:=z1.1;subst zb;rw[z2]at q2;simp only[Option.some.injEq,Value.slice.injEq,true_and]at q2;have zp:=q2.1;have zc:=q2.2;subst zp;subst zc;repeat' ((first|exact trivial|refine ld z2 ?_|refine aq ?_|refine ptr ?_|apply And.intro)<;>conv=>whnf)
 all_goals
  refine z4 (aY x).1 _ (λh9 hh=>?_);conv=>whnf
  exact hh.trans zj e4
theorem E3 {h0 h:Heap} {bx:Nat} {us:List Value} {u:aU} {x:Sx} {B:List Nat} (hX:XS h0 h bx us u x B) (hs:kU u x) (ok:cj u.J) (k:Int) (hk:k=0\/k=1) :
  bI prog 182 [.pointer (some ⟨bx,0,none⟩),.int .i64 k,.bool false] h λ_ h'=>XR h0 h bx us u B (uy u x k false) h':=by
 have J4:uy u x k false=if (bB u (aE (aC x).2).2 (aE (aC x).2).1 (-1-k)).bad then bB u (aE (aC x).2).2 (aE (aC x).2).1 (-1-k)else if ¬(0<=(aC x).1/\(aC x).1 < (aF (bB u (aE (aC x).2).2 (aE (aC x).2).1 (-1-k)).objs (aE (aC x).2).1).bE.length)then cz (bB u (aE (aC x).2).2 (aE (aC x).2).1 (-1-k)) 3 else dg (bB u (aE (aC x).2).2 (aE (aC x).2).1 (-1-k)) ((aF (bB u (aE (aC x).2).2 (aE (aC x).2).1 (-1-k)).objs (aE (aC x).2).1).bE.getD (aC x).1.toNat cJ):=rfl
 rw[J4];have fe:=hX;have jW:=hs;have fD:=Ev.refl h (bx::B);have e1:rd h bx 3=rd h bx 3:=rfl;refine bS au func182 PN N9 rfl ?_;conv=>whnf
 refine aD (nC fe jW) (λv h2 hh=>?_);have hv:=hh.1;subst hv;refine hh.2.elim λB2 fU=>?_;have oE:=fU.1;have gP:=fD.trans fU.2.1;have e2:=fU.2.2.trans e1;have zl:=jW.word;conv=>whnf
 refine aD (wG oE zl.1) (λv h3 hh=>?_);have hv:=hh.1;subst hv;refine hh.2.elim λB3 jj=>?_;have kL:=jj.1;have rT:=gP.trans jj.2.1;have e3:=jj.2.2.trans e2;have rW:=kU.ref zl.1;conv=>whnf
 refine aj ?_;conv=>whnf
 refine aD (uA kL rW.1 ok _ (-1-k) (by rw[(jK _).2.1];exact rW.2) (by omega)) (λv h4 hh=>?_);refine hh.2.1.elim λbn hv=>hv.elim λon hv=>?_;subst hv;refine hh.1.elim λB4 wU=>?_;have lB:=wU.1;have nZ:=hh.2.2;have zj:=rT.trans wU.2.1;have e4:=wU.2.2.trans e3;by_cases dh:(bB u (aE (aC x).2).2 (aE (aC x).2).1 (-1-k)).bad
 ·rw[if_pos dh];have r9:=lB.kT.1;have gV:=lB.kT.2.1;conv=>whnf
  refine ld r9 ?_;conv=>whnf
  apply dS<;>intro g;all_goals conv=>whnf
  ·exact⟨B4,lB,zj,e4⟩
  ·refine ld gV ?_;conv=>whnf
   refine fX (dh.resolve_left (by rw[g];simp)) ?_;conv=>whnf
   exact⟨B4,lB,zj,e4⟩
 rw[if_neg dh];have hg:=nZ dh;have rJ:=hg.1;have dD:=hg.2.1;have sH:=ku rW.1 dh;refine hg.2.2.elim λbo hg=>hg.elim λco hg=>?_;have mS:=hg.1;have hp:=hg.2;simp only[Value.pointer.injEq,Option.some.injEq,Addr.mk.injEq,and_true]at hp;have zD:=hp.1;have E2:=hp.2;subst zD;subst E2;rw[dD]at dh lB ⊢;have dZ:(aE (aC x).2).2.st=false:=by
  cases hh:(aE (aC x).2).2.st with
  | false=>rfl
  | true=>exact absurd (.inl hh) dh
 have wV:(aE (aC x).2).2.ft=0:=by
  have h1:=rW.1.ft;have h2:¬0 < (aE (aC x).2).2.ft:=λhx=>dh (.inr hx);omega
 have r9:=lB.kT.1;have gV:=lB.kT.2.1;rw[dZ]at r9;rw[wV]at gV;conv=>whnf
 repeat' ((first|refine ld r9 ?_|refine ld gV ?_|refine aq ?_|refine aj ?_|refine ptr ?_)<;>conv=>whnf)
 have hle:(aE (aC x).2).1<=(aE (aC x).2).2.objs.length:=by rw[(jK _).2.1];exact rW.2.2
 refine(lB.jF rJ hle).elim λYB hq=>hq.elim λRX hq=>hq.elim λvv hq=>hq.elim λBi hq=>?_;have pF:=hq.1;rw[mS]at pF;simp only[Option.some.injEq,Value.slice.injEq,Addr.mk.injEq,and_true,true_and]at pF;have eX:=pF.1;subst eX;have q2:=hq.2.2.1;have ov:=hq.2.2.2.1;have eF:=hq.2.2.2.2;have hO:=rW.1.zk _ (iw rJ hle);refine ov.form.elim λpv hf=>hf.elim λcv hf=>?_;have hv:=hf.1;subst hv;have LZ:=dY bR (aF (aE (aC x).2).2.objs (aE (aC x).2).1).bE;have hv8:(aF (aE (aC x).2).2.objs (aE (aC x).2).1).bE.length<=8:=by
  rcases hO.2 with ⟨_,h2⟩|⟨_,h3,h4⟩
  ·omega
  ·rw[h4];exact fH ok h3
 repeat' ((first|refine ld q2 ?_|refine aq ?_|refine aj ?_|refine ptr ?_)<;>conv=>whnf)
 refine ay (er _ _ _ _) ?_;conv=>whnf
 by_cases Ww:0<=(aC x).1/\(aC x).1 < (aF (aE (aC x).2).2.objs (aE (aC x).2).1).bE.length
 rotate_left
 ·rw[if_pos Ww];apply aV<;>intro g;all_goals conv=>whnf
  ·refine aD (j7 lB 3) (λv h9 hh=>?_);conv=>whnf
   exact hh.trans zj e4
  ·exfalso;omega
 rw[if_neg (by simpa using Ww)];apply aV<;>intro g;all_goals conv=>whnf
 ·exfalso;omega
 have QC:((aC x).1).toNat < (aF (aE (aC x).2).2.objs (aE (aC x).2).1).bE.length:=by omega
 refine(lB.Br rJ hle QC).elim λbo3 hz=>hz.elim λQD hz=>hz.elim λbv hz=>hz.elim λcv3 hz=>?_;have z1:=hz.1;have z2:=hz.2.1;have z3:=hz.2.2.1;have z4:=hz.2.2.2;rw[mS]at z1;simp only[Option.some.injEq,Value.slice.injEq,Addr.mk.injEq,and_true,true_and]at z1;have zb:=z1.1;subst zb;rw[z2]at q2;simp only[Option.some.injEq,Value.slice.injEq,true_and]at q2;have zp:=q2.1;have zc:=q2.2;subst zp;subst zc;repeat' ((first|refine ld z2 ?_|refine dK z3 ?_|refine aq ?_|refine aj ?_|refine ptr ?_)<;>conv=>whnf)
 refine aD (mE lB rW.1.Bq rW.1.xl _) (λv h9 hh=>?_);conv=>whnf
 exact hh.trans zj e4
theorem Dg {h0 h:Heap} {bx:Nat} {us:List Value} {u:aU} {x:Sx} {B:List Nat} (hX:XS h0 h bx us u x B) (hs:kU u x) (ok:cj u.J) (k i:Int) (hk:0<=k/\k < u.J.length) (hi:0<=i/\i < (cX u.J k).length) :
  bI prog 183 [.pointer (some ⟨bx,0,none⟩),.int .i64 k,.int .i64 i,.bool true] h λ_ h'=>XR h0 h bx us u B (pE u x k i true) h':=by
 have J4:pE u x k i true=if (bB u (aE (aY x).2).2 (aE (aY x).2).1 k).bad then bB u (aE (aY x).2).2 (aE (aY x).2).1 k else Ho (bB u (aE (aY x).2).2 (aE (aY x).2).1 k) (aE (aY x).2).1 i (aY x).1:=rfl
 rw[J4];refine bS au func183 PO Oa rfl ?_;conv=>whnf
 refine aD (yx hX hs.Bq hs.xl) (λv h1 hh=>?_);have hv:=hh.1;subst hv;refine hh.2.elim λB1 gj=>?_;have fe:=gj.1;have fD:=gj.2.1;have e1:=gj.2.2;have jW:=hs.pop.1;have RT:=hs.pop.2;have QB:(aY x).2.objs=x.objs:=(lA x).2.1;rw[<-QB]at RT;conv=>whnf
 refine aD (wG fe jW) (λv h3 hh=>?_);have hv:=hh.1;subst hv;refine hh.2.elim λB3 jj=>?_;have kL:=jj.1;have rT:=fD.trans jj.2.1;have e3:=jj.2.2.trans e1;have rW:=kU.ref jW;conv=>whnf
 refine aD (uA kL rW.1 ok _ k (by rw[(jK _).2.1];exact rW.2) (by omega)) (λv h4 hh=>?_);refine hh.2.1.elim λbn hv=>hv.elim λon hv=>?_;subst hv;refine hh.1.elim λB4 wU=>?_;have lB:=wU.1;have nZ:=hh.2.2;have zj:=rT.trans wU.2.1;have e4:=wU.2.2.trans e3;by_cases dh:(bB u (aE (aY x).2).2 (aE (aY x).2).1 k).bad
 ·rw[if_pos dh];have r9:=lB.kT.1;have gV:=lB.kT.2.1;conv=>whnf
  refine ld r9 ?_;conv=>whnf
  apply dS<;>intro g;all_goals conv=>whnf
  ·exact⟨B4,lB,zj,e4⟩
  ·refine ld gV ?_;conv=>whnf
   refine fX (dh.resolve_left (by rw[g];simp)) ?_;conv=>whnf
   exact⟨B4,lB,zj,e4⟩
 rw[if_neg dh];have hg:=nZ dh;have rJ:=hg.1;have dD:=hg.2.1;have sH:=ku rW.1 dh;refine hg.2.2.elim λbo hg=>hg.elim λco hg=>?_;have mS:=hg.1;have hp:=hg.2;simp only[Value.pointer.injEq,Option.some.injEq,Addr.mk.injEq,and_true]at hp;have zD:=hp.1;have E2:=hp.2;subst zD;subst E2;rw[dD]at dh lB ⊢;have dZ:(aE (aY x).2).2.st=false:=by
  cases hh:(aE (aY x).2).2.st with
  | false=>rfl
  | true=>exact absurd (.inl hh) dh
 have wV:(aE (aY x).2).2.ft=0:=by
  have h1:=rW.1.ft;have h2:¬0 < (aE (aY x).2).2.ft:=λhx=>dh (.inr hx);omega
 have r9:=lB.kT.1;have gV:=lB.kT.2.1;rw[dZ]at r9;rw[wV]at gV;conv=>whnf
 repeat' ((first|refine ld r9 ?_|refine ld gV ?_|refine aq ?_|refine aj ?_|refine ptr ?_)<;>conv=>whnf)
 have hle:(aE (aY x).2).1<=(aE (aY x).2).2.objs.length:=by rw[(jK _).2.1];exact rW.2.2
 refine(lB.jF rJ hle).elim λYB hq=>hq.elim λRX hq=>hq.elim λvv hq=>hq.elim λBi hq=>?_;have pF:=hq.1;rw[mS]at pF;simp only[Option.some.injEq,Value.slice.injEq,Addr.mk.injEq,and_true,true_and]at pF;have eX:=pF.1;subst eX;have q2:=hq.2.2.1;have ov:=hq.2.2.2.1;have eF:=hq.2.2.2.2;have hO:=rW.1.zk _ (iw rJ hle);refine ov.form.elim λpv hf=>hf.elim λcv hf=>?_;have hv:=hf.1;subst hv;have LZ:=dY bR (aF (aE (aY x).2).2.objs (aE (aY x).2).1).bE;have hv8:(aF (aE (aY x).2).2.objs (aE (aY x).2).1).bE.length<=8:=by
  rcases hO.2 with ⟨_,h2⟩|⟨_,h3,h4⟩
  ·omega
  ·rw[h4];exact fH ok h3
 have lq:0<=(aF (aE (aY x).2).2.objs (aE (aY x).2).1).cls/\up u.J (aF (aE (aY x).2).2.objs (aE (aY x).2).1).cls k=true:=by
  unfold fq at sH;simp at sH;have:=sH.2 hk.1;exact this
 have DY:(cX u.J k).length<=(aF (aE (aY x).2).2.objs (aE (aY x).2).1).bE.length:=by
  rcases hO.2 with ⟨h2,_⟩|⟨h2,h3,h4⟩
  ·omega
  ·rw[h4];exact ug ok ((aF (aE (aY x).2).2.objs (aE (aY x).2).1).cls.toNat+1) (by omega) h3 lq.2
 have QC:(i).toNat < (aF (aE (aY x).2).2.objs (aE (aY x).2).1).bE.length:=by omega
 refine(lB.Br rJ hle QC).elim λbo3 hz=>hz.elim λQD hz=>hz.elim λbv hz=>hz.elim λcv3 hz=>?_;have z1:=hz.1;have z2:=hz.2.1;have z3:=hz.2.2.1;have z4:=hz.2.2.2;rw[mS]at z1;simp only[Option.some.injEq,Value.slice.injEq,Addr.mk.injEq,and_true,true_and]at z1;have zb:=z1.1;subst zb;rw[z2]at q2;simp only[Option.some.injEq,Value.slice.injEq,true_and]at q2;have zp:=q2.1;have zc:=q2.2;subst zp;subst zc;repeat' ((first|exact trivial|refine ld z2 ?_|refine aq ?_|refine ptr ?_|apply And.intro)<;>conv=>whnf)
 all_goals
  refine z4 (aY x).1 _ (λh9 hh=>?_);conv=>whnf
  exact hh.trans zj e4
theorem Dh {h0 h:Heap} {bx:Nat} {us:List Value} {u:aU} {x:Sx} {B:List Nat} (hX:XS h0 h bx us u x B) (hs:kU u x) (ok:cj u.J) (k i:Int) (hk:0<=k/\k < u.J.length) (hi:0<=i/\i < (cX u.J k).length) :
  bI prog 183 [.pointer (some ⟨bx,0,none⟩),.int .i64 k,.int .i64 i,.bool false] h λ_ h'=>XR h0 h bx us u B (pE u x k i false) h':=by
 have J4:pE u x k i false=if (bB u (aE x).2 (aE x).1 k).bad then bB u (aE x).2 (aE x).1 k else dg (bB u (aE x).2 (aE x).1 k) ((aF (bB u (aE x).2 (aE x).1 k).objs (aE x).1).bE.getD i.toNat cJ):=rfl
 rw[J4];have fe:=hX;have jW:=hs;have fD:=Ev.refl h (bx::B);have e1:rd h bx 3=rd h bx 3:=rfl;refine bS au func183 PO Oa rfl ?_;conv=>whnf
 refine aD (wG fe jW) (λv h3 hh=>?_);have hv:=hh.1;subst hv;refine hh.2.elim λB3 jj=>?_;have kL:=jj.1;have rT:=fD.trans jj.2.1;have e3:=jj.2.2.trans e1;have rW:=kU.ref jW;conv=>whnf
 refine aD (uA kL rW.1 ok _ k (by rw[(jK _).2.1];exact rW.2) (by omega)) (λv h4 hh=>?_);refine hh.2.1.elim λbn hv=>hv.elim λon hv=>?_;subst hv;refine hh.1.elim λB4 wU=>?_;have lB:=wU.1;have nZ:=hh.2.2;have zj:=rT.trans wU.2.1;have e4:=wU.2.2.trans e3;by_cases dh:(bB u (aE x).2 (aE x).1 k).bad
 ·rw[if_pos dh];have r9:=lB.kT.1;have gV:=lB.kT.2.1;conv=>whnf
  refine ld r9 ?_;conv=>whnf
  apply dS<;>intro g;all_goals conv=>whnf
  ·exact⟨B4,lB,zj,e4⟩
  ·refine ld gV ?_;conv=>whnf
   refine fX (dh.resolve_left (by rw[g];simp)) ?_;conv=>whnf
   exact⟨B4,lB,zj,e4⟩
 rw[if_neg dh];have hg:=nZ dh;have rJ:=hg.1;have dD:=hg.2.1;have sH:=ku rW.1 dh;refine hg.2.2.elim λbo hg=>hg.elim λco hg=>?_;have mS:=hg.1;have hp:=hg.2;simp only[Value.pointer.injEq,Option.some.injEq,Addr.mk.injEq,and_true]at hp;have zD:=hp.1;have E2:=hp.2;subst zD;subst E2;rw[dD]at dh lB ⊢;have dZ:(aE x).2.st=false:=by
  cases hh:(aE x).2.st with
  | false=>rfl
  | true=>exact absurd (.inl hh) dh
 have wV:(aE x).2.ft=0:=by
  have h1:=rW.1.ft;have h2:¬0 < (aE x).2.ft:=λhx=>dh (.inr hx);omega
 have r9:=lB.kT.1;have gV:=lB.kT.2.1;rw[dZ]at r9;rw[wV]at gV;conv=>whnf
 repeat' ((first|refine ld r9 ?_|refine ld gV ?_|refine aq ?_|refine aj ?_|refine ptr ?_)<;>conv=>whnf)
 have hle:(aE x).1<=(aE x).2.objs.length:=by rw[(jK _).2.1];exact rW.2.2
 refine(lB.jF rJ hle).elim λYB hq=>hq.elim λRX hq=>hq.elim λvv hq=>hq.elim λBi hq=>?_;have pF:=hq.1;rw[mS]at pF;simp only[Option.some.injEq,Value.slice.injEq,Addr.mk.injEq,and_true,true_and]at pF;have eX:=pF.1;subst eX;have q2:=hq.2.2.1;have ov:=hq.2.2.2.1;have eF:=hq.2.2.2.2;have hO:=rW.1.zk _ (iw rJ hle);refine ov.form.elim λpv hf=>hf.elim λcv hf=>?_;have hv:=hf.1;subst hv;have LZ:=dY bR (aF (aE x).2.objs (aE x).1).bE;have hv8:(aF (aE x).2.objs (aE x).1).bE.length<=8:=by
  rcases hO.2 with ⟨_,h2⟩|⟨_,h3,h4⟩
  ·omega
  ·rw[h4];exact fH ok h3
 have lq:0<=(aF (aE x).2.objs (aE x).1).cls/\up u.J (aF (aE x).2.objs (aE x).1).cls k=true:=by
  unfold fq at sH;simp at sH;have:=sH.2 hk.1;exact this
 have DY:(cX u.J k).length<=(aF (aE x).2.objs (aE x).1).bE.length:=by
  rcases hO.2 with ⟨h2,_⟩|⟨h2,h3,h4⟩
  ·omega
  ·rw[h4];exact ug ok ((aF (aE x).2.objs (aE x).1).cls.toNat+1) (by omega) h3 lq.2
 have QC:(i).toNat < (aF (aE x).2.objs (aE x).1).bE.length:=by omega
 refine(lB.Br rJ hle QC).elim λbo3 hz=>hz.elim λQD hz=>hz.elim λbv hz=>hz.elim λcv3 hz=>?_;have z1:=hz.1;have z2:=hz.2.1;have z3:=hz.2.2.1;have z4:=hz.2.2.2;rw[mS]at z1;simp only[Option.some.injEq,Value.slice.injEq,Addr.mk.injEq,and_true,true_and]at z1;have zb:=z1.1;subst zb;rw[z2]at q2;simp only[Option.some.injEq,Value.slice.injEq,true_and]at q2;have zp:=q2.1;have zc:=q2.2;subst zp;subst zc;repeat' ((first|refine ld z2 ?_|refine dK z3 ?_|refine aq ?_|refine aj ?_|refine ptr ?_)<;>conv=>whnf)
 refine aD (mE lB rW.1.Bq rW.1.xl _) (λv h9 hh=>?_);conv=>whnf
 exact hh.trans zj e4
theorem XS.loc {h0 h:Heap} {bx:Nat} {us:List Value} {u:aU} {y:Sx} {B:List Nat} {bf:Nat} (hX:XS h0 h bx us u y B) (ht:Tp h bx y.fs.length bf) {i:Nat} (hi:i < y.f.locals.length) :
  ∃ bl cl,rd h bf (y.fs.length*4+2)=some (.slice (some ⟨bl,0,none⟩) (List.map bR y.f.locals).length cl)/\eG h bl (0+i*2) 2=some (bR (y.f.locals.getD i cJ)) /\
   ∀(v:Vl) (K:Heap->Prop),(∀ h',XR h0 h bx us u B {y with f:={y.f with locals:=y.f.locals.set i v} } h'->K h')->St h bl (0+i*2) [.bool v.ref,.int .i64 v.n] K:=by
 obtain⟨t,q,r,v1,v2,B1,B2,jS,hq,o1,o2,nd,gA,cD,zZ,eF⟩:=hX.lens ht;obtain⟨pv,cv,rfl,_⟩:=o1.form;obtain⟨b0,e0,r0,_,_,_⟩:=o1.two hi;obtain⟨bl,pre,xx,post,tt,EO,_,P5,fV,zh,rfl,A1⟩:=cn.put o1 hi;rw[EO]at e0;simp only[Option.some.injEq,Addr.mk.injEq,and_true]at e0;subst e0;subst EO;refine⟨bl,cv,bG jS (i:=2) (by omega) rfl,by rw[rE hi];exact r0,λv K hk=>?_⟩;have hw:ep (pre++xx++post) (0+i*2) [.bool v.ref,.int .i64 v.n]=pre++bR v++post:=mg (by omega) (by rw[zh];rfl);refine z7 P5 (pre++bR v++post) (by simp[zh,bR,fV]<;>omega) hw (λh' e1 g1=>?_);have QE:∀ b,b≠bl->h' b=h b:=λb U=>by rw[e1];simp only[Heap.set,U,if_false]
 have uo:=cD bl (by simp);have eX:∀ b∈B2,b≠bl:=by
  rintro b U rfl;have:=nd b;have:=List.count_pos_iff.2 U;simp only[List.count_append,List.count_cons,List.count_nil,beq_self_eq_true,if_true]at *;omega
 refine hk h' (eF h' {y.f with locals:=y.f.locals.set i v} _ v2 [bl] B2 ?_ ?_ (A1 _ v g1) ?_ (λb U=>.inl U) nd)
 ·rw[QE bf (λhx=>uo.1 hx.symm)];exact jS
 ·intro b U _;exact QE b (λhx=>U (by simp[hx]))
 ·exact o2.aG λb U o ho=>by rw[QE b (eX b U)];exact ho
def fh (x:Sx) (i:dX):Sx :=
 if i.kind=1 then dg x ⟨false,i.a⟩
 else if i.kind=2 then dg x ⟨true,0⟩
 else if i.kind=3 then dg x (x.f.locals.getD i.a.toNat cJ)
 else if i.kind=4 then { (aY x).2 with f:={ (aY x).2.f with locals:=(aY x).2.f.locals.set i.a.toNat (aY x).1} }
 else if i.kind=5 then (aY x).2
 else if i.kind=6 then dg (dg (aY x).2 (aY x).1) (aY x).1
 else if i.kind=7 then JZ x i.a
 else if i.kind=24 then (if (aC x).2.st=false then { (aC x).2 with said:=(aC x).2.said++[(aC x).1]}else (aC x).2)
 else x
def gZ (u:aU) (x:Sx) (i:dX):Sx :=
 if i.kind=12 then EY u x i.a
 else if i.kind=13 then nB x i.a
 else if i.kind=14 then sy x
 else if i.kind=15 then uy u x i.a false
 else if i.kind=16 then uy u x i.a true
 else if i.kind=17 then pE u x i.a i.b false
 else if i.kind=18 then pE u x i.a i.b true
 else if i.kind=19 then sA u x i.a
 else x
def eI (x:Sx) (i:dX):Bool × Sx :=
 if i.kind=8 then (decide ((aC (aC x).2).1 < (aC x).1),(aC (aC x).2).2)
 else if i.kind=9 then (decide ((aC (aC x).2).1=(aC x).1),(aC (aC x).2).2)
 else if i.kind=10 then (decide ((aE x).1=0),(aE x).2)
 else (decide (i.kind=11),x)
theorem Ae (x:Sx):(aY x).2.said=x.said:=by unfold aY;split<;>rfl
theorem E4 (x:Sx):(aC x).2.said=x.said:=by unfold aC;split<;>exact Ae x
structure QF (u:aU) (x:Sx) (i:dX):Prop where
 loc:i.kind=3\/i.kind=4->0<=i.a/\i.a < x.f.locals.length
 arr:i.kind=13\/i.kind=15\/i.kind=16->i.a=0\/i.a=1
 vM:uv u i
theorem M4 {h0 h:Heap} {bx:Nat} {us:List Value} {u:aU} {x:Sx} {B:List Nat} (hX:XS h0 h bx us u x B) (hs:kU u x) (kind a b:Int) (hi:QF u x ⟨kind,a,b⟩) (OO:x.said.length<=1000) :
  bI prog 152 [.pointer (some ⟨bx,0,none⟩),.agg #[.int .i64 kind,.int .i64 a,.int .i64 b]] h λ_ h'=>XR h0 h bx us u B (fh x ⟨kind,a,b⟩) h':=by
 obtain⟨bf,ht⟩:=hX.tp;have jg:=ux hX ht hs.Bq;obtain⟨nr,_,_⟩:=hi;simp only at nr;have push:∀ v:Vl,bI prog 175 [.pointer (some ⟨bx,0,none⟩),ON v] h λ_ h'=>XR h0 h bx us u B (dg x v) h':=λv=>mE hX hs.Bq hs.xl v;refine bS au func152 TC TE rfl ?_;conv=>whnf
 refine ay jg ?_;conv=>whnf
 by_cases k1:kind=1
 ·subst k1;conv=>whnf
  refine ay (nY _ _) ?_;conv=>whnf
  refine aD (push _) (λv h1 hh=>?_);conv=>whnf
  exact hh
 refine cy k1 ?_;conv=>whnf
 by_cases k2:kind=2
 ·subst k2;conv=>whnf
  refine ay (mF _ _) ?_;conv=>whnf
  refine aD (push _) (λv h1 hh=>?_);conv=>whnf
  exact hh
 refine cy k2 ?_;conv=>whnf
 by_cases k3:kind=3
 ·subst k3;have ha:=nr (.inl rfl);refine(hX.loc ht (i:=a.toNat) (by omega)).elim λbl hz=>hz.elim λcl hz=>?_;have z1:=hz.1;have z2:=hz.2.1;have sO:=dY bR x.f.locals;conv=>whnf
  repeat' ((first|exact trivial|refine ld z1 ?_|refine dK z2 ?_|refine aq ?_|refine ptr ?_|apply And.intro)<;>conv=>whnf)
  all_goals
   refine aD (push (x.f.locals.getD a.toNat cJ)) (λv h1 hh=>?_);conv=>whnf
   exact hh
 refine cy k3 ?_;conv=>whnf
 by_cases k4:kind=4
 ·subst k4;have ha:=nr (.inr rfl);have J1:=J0 hX hs.Bq hs.xl;refine(hX.loc ht (i:=a.toNat) (by omega)).elim λbl hz=>hz.elim λcl hz=>?_;have z1:=hz.1;have sO:=dY bR x.f.locals;conv=>whnf
  repeat' ((first|exact trivial|refine ld z1 ?_|refine aq ?_|refine ptr ?_|apply And.intro)<;>conv=>whnf)
  all_goals
   refine aD J1 (λv h1 hh=>?_);have hv:=hh.1;subst hv;refine hh.2.1.elim λB1 gj=>?_;have fe:=gj.1;have Wx:=(hh.2.2 bf ht).trans z1;have ht1:Tp h1 bx (aY x).2.fs.length bf:=by
    obtain⟨c0,k0⟩:=ht;exact⟨c0,by rw[gj.2.2,(lA x).1];exact k0⟩
   refine(fe.loc ht1 (i:=a.toNat) (by rw[(lA x).2.2.2];omega)).elim λbl2 hz=>hz.elim λcl2 hz=>?_;have y1:=hz.1;have y3:=hz.2.2;rw[(lA x).1,Wx,(lA x).2.2.2]at y1;simp only[Option.some.injEq,Value.slice.injEq,Addr.mk.injEq,and_true,true_and]at y1;have yb:=y1.1;subst yb;conv=>whnf
   repeat' ((first|refine ld Wx ?_|refine aq ?_|refine ptr ?_)<;>conv=>whnf)
   refine y3 (aY x).1 _ (λh9 MO=>?_);conv=>whnf
   exact MO.trans gj.2.1 gj.2.2
 refine cy k4 ?_;conv=>whnf
 by_cases k5:kind=5
 ·subst k5;conv=>whnf
  refine aD (yx hX hs.Bq hs.xl) (λv h1 hh=>?_);conv=>whnf
  exact hh.2
 refine cy k5 ?_;conv=>whnf
 by_cases k6:kind=6
 ·subst k6;conv=>whnf
  refine aD (yx hX hs.Bq hs.xl) (λv h1 hh=>?_);have hv:=hh.1;subst hv;refine hh.2.elim λB1 gj=>?_;have jW:=hs.pop.1;have E5:=hs.pop.2;conv=>whnf
  refine aD (mE gj.1 jW.Bq jW.xl (aY x).1) (λv h2 hh=>?_);refine hh.elim λB2 fU=>?_;have zl:=jW.push (v:=(aY x).1) (by rw[(lA x).2.1];exact E5);conv=>whnf
  refine aD (mE fU.1 zl.Bq zl.xl (aY x).1) (λv h3 hh=>?_);conv=>whnf
  exact(hh.trans fU.2.1 fU.2.2).trans gj.2.1 gj.2.2
 refine cy k6 ?_;conv=>whnf
 by_cases k7:kind=7
 ·subst k7;conv=>whnf
  refine aD (aaI hX hs a) (λv h1 hh=>?_);conv=>whnf
  exact hh
 refine cy k7 ?_;conv=>whnf
 by_cases Db:kind=24
 ·subst Db;conv=>whnf
  refine aD (nC hX hs) (λv h1 hh=>?_);have hv:=hh.1;subst hv;refine hh.2.elim λB1 gj=>?_;have fe:=gj.1;have r9:=fe.kT.1;have hp:fh x ⟨24,a,b⟩=(if (aC x).2.st=false then { (aC x).2 with said:=(aC x).2.said++[(aC x).1]}else (aC x).2):=rfl;rw[hp];have Im:(aC x).2.said.length<=1000:=by
   rw[E4];exact OO
  generalize (aC x).2=y at gj fe r9 Im ⊢;conv=>whnf
  refine ld r9 ?_;conv=>whnf
  apply bY<;>intro g;all_goals conv=>whnf
  ·rw[if_pos g];refine(fe.ma.OA (show y.Bm.said.length<=1000 from Im)).elim λt hg=>hg.elim λps hg=>hg.elim λcs hg=>hg.elim λvo hg=>hg.elim λvf hg=>hg.elim λiq grow=>?_;have r4:rd h1 bx 4=some (.slice ps y.said.length cs):=bG iq (i:=2) (by rw[fe.Gd]) rfl;have r3:rd h1 bx 3=some vf:=bG iq (i:=1) (by rw[fe.Gd]) rfl;repeat' ((first|exact trivial|refine ld r4 ?_|apply And.intro)<;>conv=>whnf)
   all_goals
    refine grow (aC x).1 [] _ _ ⟨rfl,rfl⟩ (λ_=>by simp) (by simp) rfl rfl rfl rfl (by simp) ?_;rintro p' c' h2 e1 e2 e3 ⟨B2,LM,rT⟩;have rU:=e1.trans iq;conv=>whnf
    refine kJ rU (i:=2) (aB vo vf (.slice p' (y.Bm.said.length+1) c') y.Bm) (by rw[fe.Gd]) (by simp[aB]) rfl (λh3 jj JD=>?_);rw[<-jj]at LM rT;conv=>whnf
    have q3:rd h3 bx 3=some vf:=bG JD (i:=1) (by rw[fe.Gd]) rfl;exact⟨B2,⟨LM,hX.un⟩,gj.2.1.trans (by simpa using rT),(q3.trans r3.symm).trans gj.2.2⟩
  ·rw[if_neg (by rw[g];simp)];exact⟨B1,fe,gj.2⟩
 refine cy Db ?_;conv=>whnf
 have hp:fh x ⟨kind,a,b⟩=x:=by simp[fh,k1,k2,k3,k4,k5,k6,k7,Db]
 rw[hp];exact⟨B,hX,Ev.refl _ _,rfl⟩
theorem QG {h0 h:Heap} {bx:Nat} {us:List Value} {u:aU} {x:Sx} {B:List Nat} (hX:XS h0 h bx us u x B) (hs:kU u x) (ok:cj u.J) (kind a b:Int) (hi:QF u x ⟨kind,a,b⟩) :
  bI prog 153 [.pointer (some ⟨bx,0,none⟩),.agg #[.int .i64 kind,.int .i64 a,.int .i64 b]] h λ_ h'=>XR h0 h bx us u B (gZ u x ⟨kind,a,b⟩) h':=by
 obtain⟨_,qk,dD⟩:=hi;simp only[uv]at qk dD;refine bS au func153 PL N7 rfl ?_;conv=>whnf
 by_cases JS:kind=12
 ·subst JS;conv=>whnf
  refine aD (M1 hX hs ok a (dD.1 (by simp))) (λv h1 hh=>?_);conv=>whnf
  exact hh
 refine cy JS ?_;conv=>whnf
 by_cases MT:kind=13
 ·subst MT;conv=>whnf
  refine aD (M3 hX hs a (qk (by simp))) (λv h1 hh=>?_);conv=>whnf
  exact hh
 refine cy MT ?_;conv=>whnf
 by_cases LP:kind=14
 ·subst LP;conv=>whnf
  refine aD (Qz hX hs) (λv h1 hh=>?_);conv=>whnf
  exact hh
 refine cy LP ?_;conv=>whnf
 by_cases LQ:kind=15
 ·subst LQ;conv=>whnf
  refine aD (E3 hX hs ok a (qk (by simp))) (λv h1 hh=>?_);conv=>whnf
  exact hh
 refine cy LQ ?_;conv=>whnf
 by_cases LR:kind=16
 ·subst LR;conv=>whnf
  refine aD (E1 hX hs ok a (qk (by simp))) (λv h1 hh=>?_);conv=>whnf
  exact hh
 refine cy LR ?_;conv=>whnf
 by_cases LS:kind=17
 ·subst LS;conv=>whnf
  refine aD (Dh hX hs ok a b (dD.1 (by simp)) (dD.2 (by simp))) (λv h1 hh=>?_);conv=>whnf
  exact hh
 refine cy LS ?_;conv=>whnf
 by_cases LU:kind=18
 ·subst LU;conv=>whnf
  refine aD (Dg hX hs ok a b (dD.1 (by simp)) (dD.2 (by simp))) (λv h1 hh=>?_);conv=>whnf
  exact hh
 refine cy LU ?_;conv=>whnf
 by_cases MU:kind=19
 ·subst MU;conv=>whnf
  refine aD (QA hX hs ok a (dD.1 (by simp))) (λv h1 hh=>?_);conv=>whnf
  exact hh
 refine cy MU ?_;conv=>whnf
 have hp:gZ u x ⟨kind,a,b⟩=x:=by simp[gZ,JS,MT,LP,LQ,LR,LS,LU,MU]
 rw[hp];exact⟨B,hX,Ev.refl _ _,rfl⟩
theorem M5 {h0 h:Heap} {bx:Nat} {us:List Value} {u:aU} {x:Sx} {B:List Nat} (hX:XS h0 h bx us u x B) (hs:kU u x) (kind a b:Int) :
  bI prog 151 [.pointer (some ⟨bx,0,none⟩),.agg #[.int .i64 kind,.int .i64 a,.int .i64 b]] h λv h'=>v=.bool (eI x ⟨kind,a,b⟩).1/\XR h0 h bx us u B (eI x ⟨kind,a,b⟩).2 h':=by
 have jW:=hs.word.1;refine bS au func151 TA TB rfl ?_;conv=>whnf
 by_cases k8:kind=8
 ·subst k8;conv=>whnf
  refine aD (nC hX hs) (λv h1 hh=>?_);have hv:=hh.1;subst hv;refine hh.2.elim λB1 gj=>?_;conv=>whnf
  refine aD (nC gj.1 jW) (λv h2 hh=>?_);have hv:=hh.1;subst hv;conv=>whnf
  exact⟨rfl,hh.2.trans gj.2.1 gj.2.2⟩
 refine cy k8 ?_;conv=>whnf
 by_cases k9:kind=9
 ·subst k9;conv=>whnf
  refine aD (nC hX hs) (λv h1 hh=>?_);have hv:=hh.1;subst hv;refine hh.2.elim λB1 gj=>?_;conv=>whnf
  refine aD (nC gj.1 jW) (λv h2 hh=>?_);have hv:=hh.1;subst hv;conv=>whnf
  exact⟨rfl,hh.2.trans gj.2.1 gj.2.2⟩
 refine cy k9 ?_;conv=>whnf
 by_cases D3:kind=10
 ·subst D3;conv=>whnf
  refine aD (wG hX hs) (λv h1 hh=>?_);have hv:=hh.1;subst hv;conv=>whnf
  exact⟨rfl,hh.2⟩
 refine cy D3 ?_;conv=>whnf
 have hp:eI x ⟨kind,a,b⟩=(decide (kind=11),x):=by simp[eI,k8,k9,D3]
 rw[hp];exact⟨rfl,B,hX,Ev.refl _ _,rfl⟩
def XE (h0 h:Heap) (bx:Nat) (us:List Value) (u:aU) (B:List Nat) (r:bZ × Bool × Int) (h':Heap):Prop:=∃ B',XM h0 h' bx us u r.1 r.2.1 r.2.2 B'/\Ev h h' (bx::B) (bx::B')
def Sx.res (x:Sx):bZ × Bool × Int:=(x.Bm,x.st,x.ft)
theorem XR.QH {h0 h:Heap} {bx:Nat} {us:List Value} {u:aU} {B:List Nat} {y:Sx} {h':Heap} (hr:XR h0 h bx us u B y h'):XE h0 h bx us u B y.res h':=by
 obtain⟨B',a,b,_⟩:=hr;exact⟨B',a,b⟩
theorem XE.trans {h0 h h1 h2:Heap} {bx:Nat} {us:List Value} {u:aU} {B B1:List Nat} {r:bZ × Bool × Int} (ev:Ev h h1 (bx::B) (bx::B1)) (hr:XE h0 h1 bx us u B1 r h2):XE h0 h bx us u B r h2:=by
 obtain⟨B',a,b⟩:=hr;exact⟨B',a,ev.trans b⟩
theorem XS.jP {h0 h:Heap} {bx:Nat} {us:List Value} {u:aU} {x:Sx} {B:List Nat} {bf:Nat} (hX:XS h0 h bx us u x B) (ht:Tp h bx x.fs.length bf) :
  rd h bf (x.fs.length*4+1)=some (.int .i64 x.f.pc)/\∀(n:Int) (K:Heap->Prop),(∀ h',XR h0 h bx us u B {x with f:={x.f with pc:=n} } h'->K h')->St h bf (x.fs.length*4+1) [.int .i64 n] K:=by
 obtain⟨t,q,r,v1,p2,c2,B2,jS,hq,o2,gA,r3,eF⟩:=hX.cA ht;refine⟨bG jS (i:=1) (by omega) rfl,λn K hk=>?_⟩;have hR:=(eF h _ B2 x.f.stack n (λ_ _ _=>rfl) o2 (λb U=>.inl U)).2;refine kJ jS (i:=1) [.int .i64 x.f.ah,.int .i64 n,v1,.slice p2 (x.f.stack.map bR).length c2] (by omega) (by simp) rfl (λh9 MO _=>?_);rw[<-MO]at hR;exact hk h9 hR
def wH (x:Sx):bZ × Bool × Int :=
 let p:=aY x
 if p.2.st=true then p.2.res
 else match p.2.fs.getLast? with
  | none=>(⟨x.objs,[],x.said,x.steps,1,p.1⟩,p.2.st,p.2.ft)
  | some g =>
   let y:=dg {p.2 with fs:=p.2.fs.dropLast,f:=g} p.1
   ({y with f:={y.f with pc:=y.f.pc+1} }:Sx).res
theorem Di (x:Sx) (v:Vl):(dg x v).fs=x.fs/\(dg x v).f.pc=x.f.pc/\(dg x v).f.ah=x.f.ah:=by unfold dg;split<;>exact⟨rfl,rfl,rfl⟩
theorem QI {h0 h:Heap} {bx:Nat} {us:List Value} {u:aU} {x:Sx} {B:List Nat} (hX:XS h0 h bx us u x B) (hs:kU u x) (sF:∀ g∈x.fs,EW u x.objs.length g) (hc:∀ m:cB,m∈u.methods->m.code.length<=1000) :
  bI prog 146 [.pointer (some ⟨bx,0,none⟩)] h λ_ h'=>XE h0 h bx us u B (wH x) h':=by
 have jW:=hs.pop.1;have hpx:=lA x;have QJ:=Ae x;have aaJ:(aY x).2.steps=x.steps/\(aY x).2.fin=x.fin/\(aY x).2.out=x.out:=by unfold aY;split<;>exact⟨rfl,rfl,rfl⟩
 have hbk:wH x=if (aY x).2.st=true then (aY x).2.res else match (aY x).2.fs.getLast? with
  | none=>(⟨x.objs,[],x.said,x.steps,1,(aY x).1⟩,(aY x).2.st,(aY x).2.ft)
  | some g=>({ (dg { (aY x).2 with fs:=(aY x).2.fs.dropLast,f:=g} (aY x).1)with f:={ (dg { (aY x).2 with fs:=(aY x).2.fs.dropLast,f:=g} (aY x).1).f with pc:=(dg { (aY x).2 with fs:=(aY x).2.fs.dropLast,f:=g} (aY x).1).f.pc+1} }:Sx).res:=rfl
 rw[hbk];clear hbk;obtain⟨pu,cu,qu,du,rfl,_⟩:=hX.un.form;rw[<-hpx.1,<-hpx.2.1]at sF;rw[<-hpx.2.1,<-QJ,<-aaJ.1];refine bS au func146 Ts Tt rfl ?_;conv=>whnf
 refine aD (yx hX hs.Bq hs.xl) (λv h1 hh=>?_);have hv:=hh.1;subst hv;refine hh.2.elim λB1 gj=>?_;have fe:=gj.1;have fD:=gj.2.1;generalize (aY x).2=y at sF jW fe ⊢;generalize (aY x).1=w;have r9:=fe.kT.1;conv=>whnf
 refine ld r9 ?_;conv=>whnf
 apply dS<;>intro g;all_goals conv=>whnf
 ·rw[if_pos g];exact⟨B1,fe,fD⟩
 rw[if_neg (by rw[g];simp)];refine(fe.ma.MM (fs:=y.fs) (f:=y.f) rfl).elim λtb hz=>hz.elim λpf hz=>hz.elim λcf hz=>hz.elim λvo hz=>hz.elim λvs hz=>?_;have iq:=hz.1;have gG:=hz.2.1;refine hz.2.2.elim λB2 R0=>?_;have r3:rd h1 bx 3=some (.slice pf (y.fs.length+1) cf):=bG iq (i:=1) (by rw[fe.Gd]) rfl;have Qn:=jW.nf;repeat' ((first|refine ld r3 ?_|refine aq ?_|refine aj ?_|refine ptr ?_)<;>conv=>whnf)
 have Wy:(((y.fs.length+1:Nat):Int)-1).toNat=y.fs.length:=by omega
 refine kJ iq (i:=1) (aB vo (.slice pf (((y.fs.length+1:Nat):Int)-1).toNat cf) vs y.Bm) (by rw[fe.Gd]) (by simp[aB]) rfl (λh2 fU g2=>?_);rw[Wy]at fU g2;rw[<-fU]at R0;have zi:=R0.1;have gP:=fD.trans R0.2;conv=>whnf
 rcases List.eq_nil_or_concat y.fs with hn|⟨gs,gl,hn⟩
 ·have zB:y.fs.length=0:=by rw[hn];rfl
  have CE:y.fs.getLast? = none:=by rw[hn];rfl
  rw[CE];refine b8 ?_;conv=>whnf
  refine zi.ints.elim λt2 hi=>hi.elim λQo hi=>hi.elim λQp hi=>hi.elim λJi hi=>?_;have eX:=hi.1;have eF:=hi.2.2.2.2;refine z7 eX ([.slice pu u.J.length cu,.slice qu u.methods.length du]++aB Qo Qp Ji ⟨y.objs,y.fs,y.said,y.steps,1,y.out⟩++[.bool y.st,.int .i64 y.ft]) (by simp[aB]) rfl (λh3 e3 g3=>?_);conv=>whnf
  refine z7 g3 ([.slice pu u.J.length cu,.slice qu u.methods.length du]++aB Qo Qp Ji ⟨y.objs,y.fs,y.said,y.steps,1,w⟩++[.bool y.st,.int .i64 y.ft]) (by simp[aB]) rfl (λh4 e4 g4=>?_);conv=>whnf
  have hr:=eF ⟨y.objs,y.fs,y.said,y.steps,1,w⟩ rfl rfl rfl;have e5:h4=h2.set bx (.cells (([.slice pu u.J.length cu,.slice qu u.methods.length du]++aB Qo Qp Ji ⟨y.objs,y.fs,y.said,y.steps,1,w⟩++[.bool y.st,.int .i64 y.ft]:List Value)).toArray t2 (0,0)):=by rw[e4,e3,set_set]
  rw[<-e5,hn]at hr;exact⟨B2,⟨hr.1,hX.un⟩,gP.trans hr.2⟩
 ·rw[List.concat_eq_append]at hn;have jN:y.fs.length=gs.length+1:=by rw[hn];simp
  have CE:y.fs.getLast? = some gl:=by rw[hn];simp
  have Wz:y.fs.dropLast=gs:=by rw[hn];simp
  rw[CE];simp only[Wz];have hG:=sF gl (by rw[hn];simp);have Qi:=hc _ (ir hG.1);have D0:=hG.2.1;have hgs:=hG.2.2.2.1;rw[hn]at zi;have oE:XS h0 h2 bx [.slice pu u.J.length cu,.slice qu u.methods.length du] u {y with fs:=gs,f:=gl} B2:=⟨zi,hX.un⟩
  refine bL ?_;conv=>whnf
  refine aD (mE oE (by show gs.length<=1000;omega) (by show gl.stack.length<=1000;omega) w) (λv h3 hh=>?_);refine hh.elim λB3 jj=>?_;have kL:=jj.1;have rT:=gP.trans jj.2.1;have Io:=Di {y with fs:=gs,f:=gl} w;generalize dg {y with fs:=gs,f:=gl} w=z at kL Io ⊢;refine kL.tp.elim λbf ht=>?_;have sP:z.fs.length<=1000:=by rw[Io.1];show gs.length<=1000;omega
  have hz1:=kL.jP ht;have hpz:=Io.2.1;simp only at hpz;conv=>whnf
  refine ay (ux kL ht sP) ?_;conv=>whnf
  refine ld hz1.1 ?_;conv=>whnf
  refine aj ?_;conv=>whnf
  refine hz1.2 _ _ (λh4 wU=>?_);conv=>whnf
  exact XE.trans rT wU.QH
def mG (u:aU) (n:Int) (M:bZ) (sk:Bool) (ft:Int):bZ × Bool × Int :=
 if (aF M.objs n).cls < 0\/up u.J (aF M.objs n).cls 1=false then (M,true,ft)else (cK u n M,sk,ft)
theorem Bu {h0 h:Heap} {bx:Nat} {us:List Value} {u:aU} {M:bZ} {sk:Bool} {ft:Int} {B:List Nat} (hX:XM h0 h bx us u M sk ft B) (ok:cj u.J) (n:Int) (hn:0 < n/\n<=M.objs.length) (zL:M.objs.length<=1000) (hl:M.ag.length<=1000)
  (hc : -2<=(aF M.objs n).cls/\(aF M.objs n).cls < u.J.length) (sF:∀ g∈M.ag,0<=g.ah/\g.ah < u.methods.length) (E6:∀ m∈u.methods,∀ c∈m.catches,(0<=c.hi/\c.hi<=1000)/\0<=c.cls) :
  bI prog 89 [.pointer (some ⟨bx,0,none⟩),.int .i64 n] h λ_ h'=>XE h0 h bx us u B (mG u n M sk ft) h':=by
 obtain⟨_,_,_,_,_,p,cc,q,d,rfl,r0,rm,_,hcs,fM⟩:=hX.kT;obtain⟨bo,co,r1,r2⟩:=hX.ma.jF hn.1 hn.2;have dh:(aF M.objs n).cls < 0\/up u.J (aF M.objs n).cls 1=false->mG u n M sk ft=(M,true,ft):=λhx=>if_pos hx;have ez:¬((aF M.objs n).cls < 0\/up u.J (aF M.objs n).cls 1=false)->mG u n M sk ft=(cK u n M,sk,ft):=λhx=>if_neg hx;have Oj:rd h bx 2=some (.slice (some ⟨bo,0,none⟩) M.objs.length co):=r1;have rS:0<=(aF M.objs n).cls->Pure prog 94 [.slice p u.J.length cc,.int .i64 (aF M.objs n).cls,.int .i64 1] h (.bool (up u.J (aF M.objs n).cls 1)):=λh0=>sM p u.J.length cc u.J _ 1 h hcs ok (by omega) hc.2 (by omega);refine bS au func89 F89 aaa rfl ?_;conv=>whnf
 repeat' ((first|refine ld Oj ?_|refine ld r2 ?_|refine aq ?_|refine aj ?_|refine ptr ?_)<;>conv=>whnf)
 apply ax<;>intro g1;all_goals conv=>whnf
 ·refine hX.stuck (λh1 fe fD e1=>?_);conv=>whnf
  rw[dh (.inl g1)];exact⟨B,fe,fD⟩
 repeat' ((first|refine ld r0 ?_|refine aq ?_|refine aj ?_|refine ptr ?_)<;>conv=>whnf)
 refine ay (rS (by omega)) ?_;conv=>whnf
 apply bY<;>intro g2;all_goals conv=>whnf
 ·refine hX.stuck (λh1 fe fD e1=>?_);conv=>whnf
  rw[dh (.inr g2)];exact⟨B,fe,fD⟩
 rw[ez (by rw[g2];simp;omega)];refine fm [0,1,4] [] (λs:List bU × Heap × List Nat=>XM h0 s.2.1 bx [.slice p u.J.length cc,.slice q u.methods.length d] u {M with ag:=s.1} sk ft s.2.2/\Ev h s.2.1 (bx::B) (bx::s.2.2)/\cK u n {M with ag:=s.1}=cK u n M/\s.1.length<=1000/\∀ g∈s.1,0<=g.ah/\g.ah < u.methods.length) (λs=>s.1.length)
  (λs=>([.v (.pointer (some ⟨bx,0,none⟩)),.v (.int .i64 n),.v (.int .i64 (aF M.objs n).cls)],[],s.2.1))
  (M.ag,h,B) ⟨hX,Ev.refl _ _,rfl,hl,sF⟩ rfl ?_
 rintro⟨fs,h1,B1⟩ ⟨fe,fD,dD,sG,sU⟩;simp only at fe fD dD sG sU ⊢;conv=>whnf
 obtain⟨_,_,_,⟨pf,cf,r3⟩,_,p',cc',q',d',he,r0',rm',_,Ba,PX⟩:=fe.kT;simp only[List.cons.injEq,Value.slice.injEq,true_and,and_true]at he;obtain⟨⟨rfl,rfl⟩,rfl,rfl⟩:=he;replace r3:rd h1 bx 3=some (.slice pf fs.length cf):=r3
 refine ld r3 ?_;conv=>whnf
 apply ax<;>intro g0;all_goals conv=>whnf
 ·obtain⟨gs,g,rfl⟩:∃ gs gl,fs=gs++[gl]:=by
   rcases List.eq_nil_or_concat fs with rfl|⟨gs,gl,rfl⟩
   ·simp at g0
   ·exact⟨gs,gl,by simp⟩
  have hg:=sU g (by simp);have hlen:(gs++[g]).length=gs.length+1:=by simp
  have WA:XS h0 h1 bx [.slice p u.J.length cc,.slice q u.methods.length d] u ⟨M.objs,gs,g,M.said,M.steps,M.fin,M.out,sk,ft⟩ B1:=fe;obtain⟨bf,ht⟩:=WA.tp;have BY:gs.length<=1000:=by omega
  have jg:=ux WA ht BY;simp only at jg;obtain⟨t,qq,r,v1,v2,Bl,Bs,jS,hq,o1,o2,nd,gA,cD,ne,eF⟩:=WA.lens ht;simp only at jS hq o1 o2 eF;rw[yl]at dD;have s0:rd h1 bf (gs.length*4)=some (.int .i64 g.ah):=bG jS (i:=0) (by omega) rfl;have s1:rd h1 bf (gs.length*4+1)=some (.int .i64 g.pc):=bG jS (i:=1) (by omega) rfl;have hi:g.ah.toNat < u.methods.length:=by omega
  have e:=PX.get hi;obtain⟨bb,oo,mcs,vw,e1,e2⟩:=e;have mY:br u g.ah=u.methods[g.ah.toNat]:=gv hi (by omega);have Hs:=E6 _ (ir hg);obtain⟨p1,c1,p2,c2,p3,c3,p4,c4,e3,k1,k2,k3,k4,k5,k6,k7,k8,d1,d2,d3,d4⟩:=e2.form;subst e3;have s2:rd h1 bb (oo+g.ah.toNat*8+7)=some (.slice p4 (br u g.ah).catches.length c4):=by rw[mY];exact aK e1 (i:=7) rfl
  have P9:Row 4 CI h1 (.slice p4 (br u g.ah).catches.length c4) (br u g.ah).catches:=by rw[mY];exact k8
  have d4':(br u g.ah).catches.length<=140737488351232:=by rw[mY];exact d4
  refine ay jg ?_;conv=>whnf
  repeat' ((first|refine ld rm' ?_|refine ld s0 ?_|refine aO vw ?_|refine ld s2 ?_|refine aq ?_|refine aj ?_|refine ptr ?_)<;>conv=>whnf)
  refine fm [0,1,4,5,6,7] [] (λi:Nat=>i<=(br u g.ah).catches.length/\∀ j (hj:j < (br u g.ah).catches.length),j < i->¬(((br u g.ah).catches[j].lo<=g.pc/\g.pc < (br u g.ah).catches[j].hi)/\up u.J (aF M.objs n).cls (br u g.ah).catches[j].cls=true)) (λi=>(br u g.ah).catches.length-i)
   (λi=>([.v (.pointer (some ⟨bx,0,none⟩)),.v (.int .i64 n),.v (.int .i64 (aF M.objs n).cls),.v (.pointer (some ⟨bf,gs.length*4,none⟩)),.v (.slice p4 (br u g.ah).catches.length c4),.v (.int .i64 i)],[],h1)) 0 ⟨by omega,λ_ _ hx=>by omega⟩ rfl ?_
  rintro i ⟨hi4,OE⟩;conv=>whnf
  apply ax<;>intro g5;all_goals conv=>whnf
  ·have cG:i < (br u g.ah).catches.length:=by omega
   have f:=P9.get cG;obtain⟨bc,oc,cvs,JE,f1,f2,f3⟩:=f;subst f2;have x9:=Hs _ (List.getElem_mem cG);have c0:=aK f1 (i:=0) rfl;have Oh:=aK f1 (i:=1) rfl;have Oi:=aK f1 (i:=2) rfl;have MF:=aK f1 (i:=3) rfl;have zW:=sM p u.J.length cc u.J (aF M.objs n).cls (br u g.ah).catches[i].cls h1 Ba ok (by omega) hc.2 x9.2;have go:¬(((br u g.ah).catches[i].lo<=g.pc/\g.pc < (br u g.ah).catches[i].hi)/\up u.J (aF M.objs n).cls (br u g.ah).catches[i].cls=true)->∀ j (hj:j < (br u g.ah).catches.length),j < i+1->¬(((br u g.ah).catches[j].lo<=g.pc/\g.pc < (br u g.ah).catches[j].hi)/\up u.J (aF M.objs n).cls (br u g.ah).catches[j].cls=true):=by
    intro hx j hj jv;rcases Nat.lt_succ_iff_lt_or_eq.1 jv with gH|rfl
    ·exact OE j hj gH
    ·exact hx
   repeat' ((first|refine ld s1 ?_|refine aO JE ?_|refine ld c0 ?_|refine ld Oh ?_|refine aT (er _ _ _ _) ?_|refine aq ?_|refine aj ?_|refine ptr ?_)<;>conv=>whnf)
   apply ax<;>intro g6;all_goals conv=>whnf
   ·repeat' ((first|refine ld r0' ?_|refine aO JE ?_|refine ld MF ?_|refine aT zW ?_|refine aq ?_|refine aj ?_|refine ptr ?_)<;>conv=>whnf)
    apply dS<;>intro g7;all_goals conv=>whnf
    ·have BU:mh u (aF M.objs n).cls g.pc (br u g.ah).catches=some (br u g.ah).catches[i]:=by
      rw[mo _ i OE,List.drop_eq_getElem_cons cG,mh,if_pos ⟨by omega,g7⟩]
     rw[BU]at dD;simp only at dD;repeat' ((first|refine aO JE ?_|refine ld Oi ?_|refine aq ?_|refine aj ?_|refine ptr ?_)<;>conv=>whnf)
     refine kJ jS (i:=1) [.int .i64 g.ah,.int .i64 (br u g.ah).catches[i].to,v1,v2] (by omega) (by simp) rfl (λh2 fU rR=>?_);conv=>whnf
     refine ay (mF _ _) ?_;conv=>whnf
     refine dI [.bool true,.int .i64 n] rfl (λb h3 U jj l3 JD=>?_);conv=>whnf
     have gI:h1 b=none:=by
      rw[fU]at U;by_cases rG:b=bf
      ·subst rG;simp[Heap.set]at U
      ·simpa [Heap.set,rG]using U
     have Qa:b≠bf:=by rintro rfl;rw[rR]at U;cases U
     refine kJ (l3 _ _ rR) (i:=3) [.int .i64 g.ah,.int .i64 (br u g.ah).catches[i].to,v1,.slice (some ⟨b,0,none⟩) 1 1] (by omega) (by simp) rfl (λh4 wU Qb=>?_);have qA:∀ x,x≠bf->x≠b->h4 x=h1 x:=by
      intro x n1 n2;rw[wU,jj,fU];simp[Heap.set,n1,n2]
     have RU:h4 b=some (.cells [Value.bool true,.int .i64 n].toArray 33 (0,0)):=by
      rw[wU];simp only[Heap.set,Qa,if_false];exact JD
     have Qc:∀ x∈Bl,x≠bf/\x≠b:=λx hx=>⟨(cD x (by simp[hx])).1,by rintro rfl;obtain⟨o,ho⟩:=o1.in x hx;rw[gI]at ho;cases ho⟩
     have Df:=eF h4 {g with pc:=(br u g.ah).catches[i].to,stack:=[⟨true,n⟩]} v1 (.slice (some ⟨b,0,none⟩) 1 1) Bl [b] Qb
      (λx hx hn=>by
       have n1:x≠bf:=λhy=>hx (by simp[hy]);have n2:x≠b:=by rintro rfl;exact hn gI
       exact qA x n1 n2)
      (o1.aG λx hx o ho=>by rw[qA x (Qc x hx).1 (Qc x hx).2];exact ho)
      (fR (t:=33) (by simp[bR]) rfl (by rw[RU];rfl))
      (λx hx=>by
       rcases List.mem_append.1 hx with hx|hx
       ·exact .inl (by simp[hx])
       ·rw[List.mem_singleton.1 hx];exact .inr gI)
      (by
       have n1:Nd Bl:=nd.less λa=>by simp only[List.count_append];omega
       intro a;have:=n1 a;simp only[List.count_append,List.count_cons,List.count_nil];by_cases ha:b=a
       ·subst ha;have:Bl.count b=0:=List.count_eq_zero.2 λhx=>(Qc b hx).2 rfl;simp[this]
       ·simp[ha];exact this)
     conv=>whnf
     rw[<-dD];exact XE.trans fD Df.QH
    ·refine aj ?_;conv=>whnf
     refine dm (i+1) ⟨by omega,go (λhx=>by rw[hx.2]at g7;cases g7)⟩ (by omega) rfl
   ·refine aj ?_;conv=>whnf
    refine dm (i+1) ⟨by omega,go (λhx=>g6 ⟨hx.1.1,by omega⟩)⟩ (by omega) rfl
  ·have BU:mh u (aF M.objs n).cls g.pc (br u g.ah).catches=none:=by
    rw[mo _ (br u g.ah).catches.length (λj hj _=>OE j hj (by omega)),List.drop_length];rfl
   rw[BU]at dD;simp only at dD;obtain⟨t',Qd,c',yd,oW,JF,gG,B2,zi,gP⟩:=fe.ma.MM (fs:=gs) (f:=g) rfl;have C3:rd h1 bx 3=some (.slice Qd (gs.length+1) c'):=bG JF (i:=1) rfl rfl;rw[r3]at C3;simp only[Option.some.injEq,Value.slice.injEq]at C3;obtain⟨rfl,_,rfl⟩:=C3;repeat' ((first|refine ld r3 ?_|refine aq ?_|refine aj ?_|refine ptr ?_)<;>conv=>whnf)
   have JB:(((gs++[g]).length:Int)-1).toNat=gs.length:=by omega
   refine kJ JF (i:=1) (aB yd (.slice pf (((gs++[g]).length:Int)-1).toNat cf) oW {M with ag:=gs++[g]}) rfl (by simp[aB]) rfl (λh2 fU rR=>?_);rw[JB]at fU rR;rw[<-fU]at zi gP;conv=>whnf
   refine dm (gs,h2,B2) ⟨⟨zi,hX.un⟩,fD.trans gP,dD,by simp at sG ⊢;omega,λx hx=>sU x (by simp[hx])⟩ (by simp) rfl
 ·have JC:fs=[]:=List.eq_nil_of_length_eq_zero (show fs.length=0 by simpa using g0);subst JC;obtain⟨t',yd,CY,oW,bz,_,_,_,hint⟩:=fe.ma.ints;refine kJ bz (i:=4) (aB yd CY oW {M with ag:=[],fin:=2}) rfl (by simp[aB]) rfl (λh2 fU rR=>?_);conv=>whnf
  refine ay (mF _ _) ?_;conv=>whnf
  refine z7 rR ([.slice p u.J.length cc,.slice q u.methods.length d]++aB yd CY oW {M with ag:=[],fin:=2,out:=⟨true,n⟩}++[.bool sk,.int .i64 ft]) (by simp[aB]) rfl (λh3 jj JD=>?_);obtain⟨zi,gP⟩:=hint {M with ag:=[],fin:=2,out:=⟨true,n⟩} rfl rfl rfl;have C4:h3=h1.set bx (.cells (([.slice p u.J.length cc,.slice q u.methods.length d]++aB yd CY oW {M with ag:=[],fin:=2,out:=⟨true,n⟩}++[.bool sk,.int .i64 ft]:List Value)).toArray t' (0,0)):=by
   rw[jj,fU,set_set]
  rw[<-C4]at zi gP;conv=>whnf
  rw[<-dD];exact⟨B1,⟨zi,hX.un⟩,fD.trans gP⟩
theorem dP {sz:Nat} {h:Heap} {b:Nat} {t:TypeId} (U:h b=some (.cells #[] t (0,0))):cn sz h (.slice (some ⟨b,0,none⟩) 0 0) [] [b]:=⟨by simp,.inr ⟨b,0,[],t,rfl,by simp,by simpa using U,by simp,rfl⟩⟩
theorem E7 (us:List Value) (u:aU) (k:Int) (given:List Vl) (v:Value) (h:Heap) (hu:dL h us u) (hk:0<=k/\k < u.methods.length) (hg:nT h v given) (hl:given.length<=1000) (nr:(br u k).locals<=1000) :
  bI prog 87 [.agg ⟨us⟩,.int .i64 k,v] h λv' h'=>h.le h'/\∃ v1 v2 B1 B2,v'=.agg #[.int .i64 k,.int .i64 0,v1,v2]/\cq h' v1 (gW u k given).locals B1/\cq h' v2 [] B2/\Nd (B1++B2)/\∀ b∈B1++B2,h b=none:=by
 obtain⟨p,cc,q,d,rfl,hcs,fM,jN,hl2⟩:=hu.form;have hi:k.toNat < u.methods.length:=by omega
 have e:=fM.get hi;obtain⟨bb,oo,ms,vw,e1,e2⟩:=e;have mY:br u k=u.methods[k.toNat]:=gv hi (by omega);obtain⟨p1,c1,p2,c2,p3,c3,p4,c4,e3,_⟩:=e2.form;subst e3;have r4:rd h bb (oo+k.toNat*8+4)=some (.int .i64 (br u k).locals):=by rw[mY];exact aK e1 (i:=4) rfl
 have R1:=hg;obtain⟨Yv,rR,pg,cg,rfl,JD,OE⟩:=hg;have hlen:=dY bR given;refine bS au func87 F87 Z9 rfl ?_;conv=>whnf
 refine dI [] rfl (λb1 h1 gI ee1 l1 g1=>?_);conv=>whnf
 refine(R1.le l1).MI ?_;conv=>whnf
 refine cY (h0:=h) (xs:=[]) (ys:=given.map bR) (B:=[b1]) (dP g1) (by simpa using gI) l1 rfl rfl (by simp[bR]) (jh given) rfl (by simp;omega) (by simp;omega) ?_;intro v' h2 B2 k1 k2 k3 k4 k5;have zn:cq h2 v' given B2:=by simpa using k2
 have hf:=zn.form;obtain⟨pl,cl,rfl,_⟩:=hf;conv=>whnf
 refine dI [] rfl (λb3 h3 rU ee3 l3 g3=>?_);have aaK:h b3=none:=by
  cases hh:h b3 with
  | none=>rfl
  | some o=>rw[k1 b3 o hh]at rU;cases rU
 have wC:b3 ∉ B2:=λhx=>by
  obtain⟨o,ho⟩:=zn.in b3 hx;rw[rU]at ho;cases ho
 have FY:(given.map bR).length=given.length+0:=by simp
 have aaL:cq h3 (.slice pl (given.length+0) cl) (given++List.replicate 0 cJ) B2:=by
  rw[<-FY];simpa using zn.aG (cC.of_le l3 _)
 rw[FY];conv=>whnf
 refine fm [1,3,6,7] [3,6,7] (λs:Nat × Heap × Option Addr × Nat × List Nat=>(s.1=0\/(given.length:Int)+s.1<=(br u k).locals)/\h.le s.2.1/\cq s.2.1 (.slice s.2.2.1 (given.length+s.1) s.2.2.2.1) (given++List.replicate s.1 cJ) s.2.2.2.2/\(∀ b∈s.2.2.2.2,h b=none)/\b3 ∉ s.2.2.2.2/\s.2.1 b3=some (.cells #[] 33 (0,0))) (λs=>(br u k).locals.toNat-(given.length+s.1))
  (λs=>([.v (.int .i64 k),.l 3 0,.l 6 0,.l 7 0],[some [.slice p u.J.length cc,.slice q u.methods.length d],some [.int .i64 0,.int .i64 0,.slice none 0 0,.slice none 0 0],some [.int .i64 k,.int .i64 0,.slice s.2.2.1 (given.length+s.1) s.2.2.2.1,.slice (some ⟨b3,0,none⟩) 0 0]],s.2.1))
  (0,h3,pl,cl,B2) ⟨.inl rfl,Heap.le_trans k1 l3,aaL,k3,wC,g3⟩ rfl ?_
 rintro⟨j,h5,pp,c,Bv⟩ ⟨hj,l5,ov,nv,nb,gb⟩;simp only at hj l5 ov nv nb gb ⊢;have We:=aX l5 r4;conv=>whnf
 repeat' ((first|refine aO vw ?_|refine ld We ?_|refine aq ?_|refine aj ?_|refine ptr ?_)<;>conv=>whnf)
 apply ax<;>intro g;all_goals conv=>whnf
 ·repeat' ((first|exact trivial|refine aT (nY _ _) ?_|apply And.intro)<;>conv=>whnf)
  all_goals
   have cO:((given++List.replicate j cJ).map bR).length=given.length+j:=by simp
   refine cY (h0:=h) (ys:=[bR cJ]) ov nv l5 rfl rfl (by simp[bR]) rfl rfl (by simp;omega) (by simp;omega) ?_;intro v' h6 B6 q1 q2 q3 q4 q5;have OD:cq h6 v' (given++List.replicate (j+1) cJ) B6:=by
    unfold cq;rw[List.replicate_succ',<-List.append_assoc,List.map_append];exact q2
   obtain⟨p',c',rfl,_⟩:=OD.form;have AX:((given++List.replicate (j+1) cJ).map bR).length=given.length+(j+1):=by simp
   rw[AX]at OD ⊢;conv=>whnf
   refine dm (j+1,h6,p',c',B6) ⟨.inr (by omega),q1,OD,q3,λhx=>?_,?_⟩ (by simp only;omega) rfl
   ·rcases q5 b3 hx with hy|hy
    ·exact nb hy
    ·rw[gb]at hy;cases hy
   ·show h6 b3=_;rw[q4 b3 nb (by rw[gb];simp)];exact gb
 ·have hje:j=(br u k).locals.toNat-given.length:=by omega
  refine⟨l5,_,_,Bv,[b3],rfl,?_,dP gb,?_,?_⟩
  ·unfold gW;rw[<-hje];exact ov
  ·intro a;have:=ov.nd a;simp only[List.count_append,List.count_cons,List.count_nil];by_cases ha:b3=a
   ·subst ha;simp[List.count_eq_zero.2 nb]
   ·simp[ha];exact this
  ·intro b U;simp only[List.mem_append,List.mem_singleton]at U;rcases U with U|rfl
   ·exact nv b U
   ·exact aaK
def cx (u:aU) (x:dX):Int :=
 if x.kind=20 then (br u x.a).args.length
 else if x.kind=21 then (if 0<=find u x.a x.b then (br u (find u x.a x.b)).args.length+1 else -1)
 else -1
theorem wI (us:List Value) (u:aU) (kind a b:Int) (h:Heap) (hu:dL h us u) (ok:cj u.J) (G0:kind=20->0<=a/\a < u.methods.length) (LJ:kind=21->0<=a/\a < u.J.length) :
  Pure prog 121 [.agg ⟨us⟩,.agg #[.int .i64 kind,.int .i64 a,.int .i64 b]] h (.int .i64 (cx u ⟨kind,a,b⟩)):=by
 have iJ:=hu;obtain⟨p,cc,q,d,rfl,hcs,fM,jN,hl2⟩:=hu.form;have args:∀ k:Int,0<=k->k < u.methods.length->∃ bb oo pa ca,q=some ⟨bb,oo,none⟩/\rd h bb (oo+k.toNat*8+2)=some (.slice pa (br u k).args.length ca)/\(br u k).args.length<=140737488351232:=by
  intro k LA FZ;have hi:k.toNat < u.methods.length:=by omega
  obtain⟨bb,oo,ms,vw,e1,e2⟩:=fM.get hi;have mY:br u k=u.methods[k.toNat]:=gv hi (by omega);obtain⟨p1,c1,p2,c2,p3,c3,p4,c4,e3,k1,k2,k3,k4,k5,k6,k7,k8,d1,d2,d3,d4⟩:=e2.form;subst e3;exact⟨bb,oo,p1,c1,vw,by rw[mY];exact aK e1 (i:=2) rfl,by rw[mY];exact k5.1⟩
 by_cases g1:kind=20
 ·subst g1;have ha:=G0 rfl;obtain⟨bb,oo,pa,ca,hq,r2,_⟩:=args a ha.1 ha.2;refine gN au func121 I1 FU rfl ?_;conv=>whnf
  repeat' ((first|refine aO hq ?_|refine ld r2 ?_|refine aq ?_|refine aj ?_|refine ptr ?_)<;>conv=>whnf)
  exact⟨rfl,rfl⟩
 by_cases g2:kind=21
 ·subst g2;have ha:=LJ rfl;have hf:=ji u a b;have QK:cx u ⟨21,a,b⟩=if 0<=find u a b then ((br u (find u a b)).args.length:Int)+1 else -1:=rfl
  by_cases g3:0<=find u a b
  ·obtain⟨bb,oo,pa,ca,hq,r2,hle⟩:=args (find u a b) g3 hf.2;rw[QK,if_pos g3];have BU:=tX _ u a b h iJ ok (by omega) ha.2;generalize find u a b=k at *;refine gN au func121 I1 FU rfl ?_;conv=>whnf
   refine ay BU ?_;conv=>whnf
   refine fX g3 ?_;conv=>whnf
   repeat' ((first|refine aO hq ?_|refine ld r2 ?_|refine aq ?_|refine aj ?_|refine ptr ?_)<;>conv=>whnf)
   exact⟨rfl,rfl⟩
  ·rw[QK,if_neg g3];have BU:=tX _ u a b h iJ ok (by omega) ha.2;refine gN au func121 I1 FU rfl ?_;conv=>whnf
   refine ay BU ?_;conv=>whnf
   refine cy g3 ?_;conv=>whnf
   exact⟨rfl,rfl⟩
 ·have QK:cx u ⟨kind,a,b⟩ = -1:=by simp[cx,g1,g2]
  rw[QK];refine gN au func121 I1 FU rfl ?_;conv=>whnf
  refine cy g1 ?_;conv=>whnf
  refine cy g2 ?_;conv=>whnf
  exact⟨rfl,rfl⟩
theorem XS.rest {h0 h:Heap} {bx:Nat} {us:List Value} {u:aU} {x:Sx} {B:List Nat} {bf:Nat} (hX:XS h0 h bx us u x B) (ht:Tp h bx x.fs.length bf) (hs:x.f.stack.length<=1000) {m:Nat} (hm:m<=x.f.stack.length) :
  ∃ p2 c2,rd h bf (x.fs.length*4+3)=some (.slice p2 (x.f.stack.map bR).length c2)/\x.f.stack.length<=c2/\(∀ oa,(c2≠m->oa=p2.map λa=>a.add (m*2))->(c2=m->oa=p2)->nT h (.slice oa ((x.f.stack.map bR).length-m) (c2-m)) (x.f.stack.drop m)) /\
   ∀ K:Heap->Prop,(∀ h',XR h0 h bx us u B {x with f:={x.f with stack:=x.f.stack.take m} } h'->K h')->St h bf (x.fs.length*4+3) [.slice p2 m c2] K:=by
 obtain⟨t,q,r,v1,p2,c2,B2,jS,hq,o2,gA,r3,eF⟩:=hX.cA ht;have hlen:=dY bR x.f.stack;obtain⟨_,_,he,gG⟩:=o2.form;simp only[Value.slice.injEq]at he;obtain⟨_,_,rfl⟩:=he;refine⟨p2,c2,r3,by simpa using gG,λoa k1 k2=>?_,λK hk=>?_⟩
 ·have:=cn.rest (sz:=2) o2 (l:=m) (by simp;omega) (by simp;omega) k1 k2;rw[wA]at this;exact this
 ·have o3:cq h (.slice p2 m c2) (x.f.stack.take m) B2:=by
   have:=cn.first (l:=m) o2 (by simp;omega);rw[<-List.map_take]at this;exact this
  have Df:=(eF h _ B2 (x.f.stack.take m) x.f.pc (λ_ _ _=>rfl) o3 (λb U=>.inl U)).2;refine kJ jS (i:=3) [.int .i64 x.f.ah,.int .i64 x.f.pc,v1,.slice p2 m c2] (by omega) (by simp) rfl (λh9 MO _=>?_);rw[<-MO]at Df;exact hk h9 Df
def jT (u:aU) (x:Sx) (i:dX):bZ × Bool × Int :=
 if cx u i < 0\/(x.f.stack.length:Int) < cx u i then ({x with st:=true}:Sx).res
 else
  let given:=x.f.stack.drop (x.f.stack.length-(cx u i).toNat)
  let y:=if i.kind=21 then (if (given.getD 0 cJ).ref=false then {x with st:=true}else bB u x (given.getD 0 cJ).n i.a)else x
  if i.kind=21/\y.bad then y.res
  else if x.fs.length+1=4 then (cz y 6).res
  else (⟨x.objs,x.fs++[{x.f with stack:=x.f.stack.take (x.f.stack.length-(cx u i).toNat)}]++[gW u (if i.kind=21 then find u (aF x.objs (given.getD 0 cJ).n).cls i.b else i.a) given],x.said,x.steps,x.fin,x.out⟩,y.st,y.ft)
theorem XM.z6 {h0 h:Heap} {bx:Nat} {us:List Value} {u:aU} {M:bZ} {sk:Bool} {ft:Int} {B:List Nat} (hX:XM h0 h bx us u M sk ft B) (hl:M.ag.length<=1000) :
  ∃ pf cf,rd h bx 3=some (.slice pf M.ag.length cf)/\∀(h4:Heap),h.le h4->∀ {bytes:Nat} {zero:List Value} {el:TypeId} {m':Nat} (a:bU) (Bv:List Nat) (y:List Value) (K:Value->Heap->Prop),oY h4 y a Bv->Nd Bv->(∀ b∈Bv,h b=none)->m'=1->y.length=4->dG y=true->zero.length=4->bytes<=1000 ->
   (∀ p' c' h5,(∀ K':Heap->Prop,(∀ h6,XE h0 h bx us u B ({M with ag:=M.ag++[a]},sk,ft) h6->K' h6)->St h5 bx 3 [.slice p' (M.ag.length+1) c'] K')->K (.slice p' (M.ag.length+1) c') h5)->App bytes 4 zero el h4 pf M.ag.length cf m' y K:=by
 obtain⟨t,pf,cf,vo,vs,U,_⟩:=hX.ma.z6 hl;have yw:=hX.Gd;refine⟨pf,cf,bG U (i:=1) (by rw[yw]) rfl,λh4 l4=>?_⟩;intro bytes zero el m' a Bv y K k1 k2 k3 k4 k5 k6 k7 k8 k9;have fI:=hX.ma.in;have hle:=hX.ma.le;obtain⟨t',Qd,cf',yd,oW,bz,grow⟩:=(hX.mono l4).1.ma.z6 hl;have e1:rd h4 bx 3=some (.slice pf M.ag.length cf):=aX l4 (bG U (i:=1) (by rw[yw]) rfl);rw[bG bz (i:=1) (by rw[yw]) rfl]at e1;simp only[Option.some.injEq,Value.slice.injEq,true_and]at e1;obtain⟨rfl,rfl⟩:=e1;refine grow a Bv y K k1 k2 (λb eX=>⟨λhx=>?_,?_⟩) k4 k5 k6 k7 k8 (λp' c' h5 e1 e2 e3 hh=>k9 p' c' h5 (λK' hk=>?_))
 ·obtain⟨o,ho⟩:=fI b hx;rw[k3 b eX]at ho;cases ho
 ·cases hh:h0 b with
  | none=>rfl
  | some o=>have:=k3 b eX;rw[hle b o hh]at this;cases this
 ·obtain⟨B',hM,ev⟩:=hh;refine kJ (e1.trans bz) (i:=1) (aB yd (.slice p' (M.ag.length+1) c') oW M) (by rw[yw]) (by simp[aB]) rfl (λh6 WB _=>?_);rw[<-WB]at hM ev;exact hk h6 ⟨B',⟨hM,hX.un⟩,(Ev.of_le l4 ((bx::B)++Bv) (λb eX=>(List.mem_append.1 eX).imp id (k3 b))).trans ev⟩
theorem mH {K:Value->Heap->Prop} {E:List PanicEntry->Heap->Prop} (us:List Value) (u:aU) (k:Int) (given:List Vl) (v:Value) (h:Heap) (hu:dL h us u) (hk:0<=k/\k < u.methods.length) (hg:nT h v given) (hl:given.length<=1000) (nr:(br u k).locals<=1000)
  (hK:∀ h' p1 n1 c1 p2 n2 c2 B1 B2,h.le h'->cq h' (.slice p1 n1 c1) (gW u k given).locals B1->cq h' (.slice p2 n2 c2) [] B2->Nd (B1++B2)->(∀ b∈B1++B2,h b=none)->K (.agg #[.int .i64 k,.int .i64 0,.slice p1 n1 c1,.slice p2 n2 c2]) h') :
  jA prog 87 [.agg ⟨us⟩,.int .i64 k,v] h K E:=cE (E7 us u k given v h hu hk hg hl nr) (λv' h' hh=>by
 obtain⟨l1,v1,v2,B1,B2,rfl,o1,o2,nd,fr⟩:=hh;obtain⟨p1,c1,rfl,_⟩:=o1.form;obtain⟨p2,c2,rfl,_⟩:=o2.form;exact⟨l1,hK h' _ _ _ _ _ _ B1 B2 l1 o1 o2 nd fr⟩)
theorem Dj {u:aU} {x:Sx} {a b:Int} (qc:¬(cx u ⟨20,a,b⟩ < 0\/(x.f.stack.length:Int) < cx u ⟨20,a,b⟩)):jT u x ⟨20,a,b⟩ =
  if x.fs.length+1=4 then (cz x 6).res else (⟨x.objs,x.fs++[{x.f with stack:=x.f.stack.take (x.f.stack.length-(cx u ⟨20,a,b⟩).toNat)}]++[gW u a (x.f.stack.drop (x.f.stack.length-(cx u ⟨20,a,b⟩).toNat))],x.said,x.steps,x.fin,x.out⟩,x.st,x.ft):=by
 unfold jT;rw[if_neg qc];simp
theorem Dk {u:aU} {x:Sx} {a b:Int} (qc:¬(cx u ⟨21,a,b⟩ < 0\/(x.f.stack.length:Int) < cx u ⟨21,a,b⟩)) {v0:Vl} (hv:(x.f.stack.drop (x.f.stack.length-(cx u ⟨21,a,b⟩).toNat)).getD 0 cJ=v0):jT u x ⟨21,a,b⟩ =
  if v0.ref=false then ({x with st:=true}:Sx).res else if (bB u x v0.n a).bad then (bB u x v0.n a).res else if x.fs.length+1=4 then (cz (bB u x v0.n a) 6).res
  else (⟨x.objs,x.fs++[{x.f with stack:=x.f.stack.take (x.f.stack.length-(cx u ⟨21,a,b⟩).toNat)}]++[gW u (find u (aF x.objs v0.n).cls b) (x.f.stack.drop (x.f.stack.length-(cx u ⟨21,a,b⟩).toNat))],x.said,x.steps,x.fin,x.out⟩,(bB u x v0.n a).st,(bB u x v0.n a).ft):=by
 unfold jT;rw[if_neg qc];simp only[hv];by_cases h1:v0.ref=false
 ·simp[h1,Sx.bad]
 ·simp[h1]
theorem Ht {h0 h:Heap} {bx:Nat} {us:List Value} {u:aU} {x:Sx} {B:List Nat} (hX:XS h0 h bx us u x B) (hs:kU u x) (hu:eC u) (a b:Int) (dZ:x.st=false) (wV:x.ft=0)
  (ha:0<=a/\a < u.methods.length) :
  bI prog 147 [.pointer (some ⟨bx,0,none⟩),.agg #[.int .i64 20,.int .i64 a,.int .i64 b]] h λ_ h'=>XE h0 h bx us u B (jT u x ⟨20,a,b⟩) h':=by
 have ok:=hu.1;obtain⟨bf,ht⟩:=hX.tp;have jg:=ux hX ht hs.Bq;have hs4:=hs.jy.2.2.2.1;have Qn:=hs.nf;obtain⟨r9,gV,_,_,_,p,cc,q,d,rfl,r0,rm,QL,hcs,fM⟩:=hX.kT;have QM:=wI [.slice p u.J.length cc,.slice q u.methods.length d] u 20 a b h (hX.un.le hX.ma.le) ok (by exact λ_=>ha) (by simp);have hlen:=dY bR x.f.stack;have fI:=hX.ma.in;by_cases qc:cx u ⟨20,a,b⟩ < 0\/(x.f.stack.length:Int) < cx u ⟨20,a,b⟩
 ·have x9:jT u x ⟨20,a,b⟩=({x with st:=true}:Sx).res:=if_pos qc;rw[x9];generalize cx u ⟨20,a,b⟩=n at QM qc;obtain⟨p2,c2,r3,_⟩:=hX.rest ht hs.xl (m:=0) (by omega);refine bS au func147 I3 FV rfl ?_;conv=>whnf
  refine ay jg ?_;conv=>whnf
  repeat' ((first|refine dK QL ?_|refine aT QM ?_|refine aq ?_|refine aj ?_|refine ptr ?_)<;>conv=>whnf)
  apply ax<;>intro g;all_goals conv=>whnf
  ·refine hX.stuck (λh1 fe fD e1=>?_);conv=>whnf
   exact⟨B,fe,fD⟩
  ·refine ld r3 ?_;conv=>whnf
   refine b8 ?_;conv=>whnf
   refine hX.stuck (λh1 fe fD e1=>?_);conv=>whnf
   exact⟨B,fe,fD⟩
 have x9:=Dj qc;generalize cx u ⟨20,a,b⟩=n at *;have rJ:0<=n/\n<=x.f.stack.length:=by omega
 obtain⟨m,hm⟩:∃ m,m=x.f.stack.length-n.toNat:=⟨_,rfl⟩
 rw[<-hm]at x9;generalize jT u x ⟨20,a,b⟩=res at x9 ⊢;obtain⟨p2,c2,r3,LD,J5,_⟩:=hX.rest ht hs.xl (m:=m) (by omega);have Hs:(((x.f.stack.map bR).length:Int)-n).toNat=m:=by omega
 have BY:(x.f.stack.drop m).length=n.toNat:=by simp;omega
 have hz:∀(h1:Heap) (oa:Option Addr),h.le h1->(c2≠(((x.f.stack.map bR).length:Int)-n).toNat->oa=p2.map λa=>a.add ((((x.f.stack.map bR).length:Int)-n).toNat*2))->(c2=(((x.f.stack.map bR).length:Int)-n).toNat->oa=p2) ->
   nT h1 (.slice oa ((x.f.stack.map bR).length-(((x.f.stack.map bR).length:Int)-n).toNat) (c2-m)) (x.f.stack.drop m):=by
  rw[Hs];exact λh1 oa l1 k1 k2=>(J5 oa k1 k2).le l1
 refine bS au func147 I3 FV rfl ?_;conv=>whnf
 refine ay jg ?_;conv=>whnf
 repeat' ((first|refine dK QL ?_|refine aT QM ?_|refine aq ?_|refine aj ?_|refine ptr ?_)<;>conv=>whnf)
 refine bL ?_;conv=>whnf
 refine ld r3 ?_;conv=>whnf
 refine bL ?_;conv=>whnf
 have hsz:(List.map bR x.f.stack).length-(((List.map bR x.f.stack).length:Int)-n).toNat=((x.f.stack.drop m).map bR).length:=by simp;omega
 repeat' ((first|exact trivial|apply And.intro|refine ld r3 ?_|refine ld (aX l1 r3) ?_|refine aq ?_|refine aj ?_|refine dI [] rfl (λb1 h1 gI ee1 l1 g1=>?_)|refine Go.Proofs.sub (λoa q1 q2=>?_))<;>conv=>whnf)
 all_goals
  refine mb.MI (hz h1 oa l1 q1 q2) ?_;conv=>whnf
  refine cY (h0:=h) (xs:=[]) (ys:=(x.f.stack.drop m).map bR) (B:=[b1]) (dP g1) (by simpa using gI) l1 rfl hsz (λy hy=>by obtain⟨w,_,rfl⟩:=List.mem_map.1 hy;rfl) (jh _) rfl (by simp;omega) (by simp;omega) ?_;intro v' h2 Bg k1 k2 k3 k4 k5;have zn:cq h2 v' (x.f.stack.drop m) Bg:=by rw[List.nil_append]at k2;exact k2
  have hf:=zn.form;obtain⟨pg,cg,rfl,_⟩:=hf;conv=>whnf
  have F7:=hX.mono k1;have oE:XS h0 h2 bx [.slice p u.J.length cc,.slice q u.methods.length d] u x B:=F7.1;have J6:Tp h2 bx x.fs.length bf:=by obtain⟨c0,q0⟩:=ht;exact⟨c0,aX k1 q0⟩
  have aaM:=bK k1 QL;refine J6.elim λcf Hq=>?_;refine ld Hq ?_;conv=>whnf
  apply ax<;>intro gf;all_goals conv=>whnf
  ·refine aD (j7 oE 6) (λv h3 hh=>?_);conv=>whnf
   rw[x9,if_pos (by omega)];exact XE.trans F7.2.1 hh.QH
  ·refine(oE.rest J6 hs.xl (m:=m) (by omega)).elim λp3 hr=>hr.elim λc3 hr=>?_;have w3:=hr.1;have wc:=hr.2.1;have WC:=hr.2.2.2;rw[<-Hs]at WC;repeat' ((first|exact trivial|apply And.intro|refine ld w3 ?_|refine aq ?_|refine aj ?_)<;>conv=>whnf)
   all_goals
    refine WC _ (λh3 hh=>?_);rw[Hs]at hh;refine hh.elim λB3 jj=>?_;have kL:=jj.1;have rT:=F7.2.1.trans jj.2.1;refine(XM.z6 kL (show(x.fs++[_]).length<=1000 by simp;omega)).elim λpf hg=>hg.elim λcf2 hg=>hg.elim λIo grow=>?_;have QN:=kL.kT.2.2.2.2.2;refine QN.elim λpa hr=>hr.elim λca hr=>hr.elim λqa hr=>hr.elim λda hr=>?_;have he:=hr.1;simp only[List.cons.injEq,Value.slice.injEq,true_and,and_true]at he;have WD:=he.1.1;have WE:=he.1.2;have Hu:=he.2.1;have WG:=he.2.2;subst WD WE Hu WG;have J7:=hr.2.2.2.1;have hog:cq h3 (.slice pg ((x.f.stack.drop m).map bR).length cg) (x.f.stack.drop m) Bg:=zn.aG λb U o ho=>by
     rw[jj.2.1.ic b (by rw[ho];simp) (λhx=>?_)]
     ·exact ho
     ·obtain⟨o2,J8⟩:=fI b hx;rw[k3 b U]at J8;cases J8
    have hfk:∀ {K:Value->Heap->Prop} {E:List PanicEntry->Heap->Prop},_->jA prog 87 [.agg #[.slice p u.J.length cc,.slice q u.methods.length d],.int .i64 (a),.slice pg ((x.f.stack.drop m).map bR).length cg] h3 K E:=λ{K E} hK=>mH _ u (a) (x.f.stack.drop m) _ h3 (hX.un.le kL.ma.le) ha (hog.read (by simp;omega)) (by omega) (by have:=(hu.br ha).1.2.2.2.2.1;omega) hK;conv=>whnf
    repeat' ((first|exact trivial|apply And.intro|refine dK J7 ?_|refine ld Io ?_|refine ld (aX l4 Io) ?_|refine hfk (λh4 p5 n5 c5 p6 n6 c6 B5 B6 l4 o5 o6 n56 f56=>?_))<;>conv=>whnf)
    all_goals
     refine grow h4 l4 (gW u (a) (x.f.stack.drop m)) (B5++B6) _ _ ⟨_,_,B5,B6,rfl,o5,o6,rfl⟩ n56 f56 rfl rfl rfl rfl (by simp) (λp' c' h5 QO=>?_);conv=>whnf
     refine QO _ (λh6 WB=>?_);conv=>whnf
     rw[x9,if_neg (by omega)];exact XE.trans rT WB
theorem Hv {h0 h:Heap} {bx:Nat} {us:List Value} {u:aU} {x:Sx} {B:List Nat} (hX:XS h0 h bx us u x B) (hs:kU u x) (hu:eC u) (a b:Int) (dZ:x.st=false) (wV:x.ft=0)
  (ha:0<=a/\a < u.J.length) (hsend:0<=find u a b->∀ c:Int,c < u.J.length->up u.J c a=true->0<=find u c b) :
  bI prog 147 [.pointer (some ⟨bx,0,none⟩),.agg #[.int .i64 21,.int .i64 a,.int .i64 b]] h λ_ h'=>XE h0 h bx us u B (jT u x ⟨21,a,b⟩) h':=by
 have ok:=hu.1;obtain⟨bf,ht⟩:=hX.tp;have jg:=ux hX ht hs.Bq;have hs4:=hs.jy.2.2.2.1;have Qn:=hs.nf;obtain⟨r9,gV,_,_,_,p,cc,q,d,rfl,r0,rm,QL,hcs,fM⟩:=hX.kT;have QM:=wI [.slice p u.J.length cc,.slice q u.methods.length d] u 21 a b h (hX.un.le hX.ma.le) ok (by simp) (by exact λ_=>ha);have hlen:=dY bR x.f.stack;have fI:=hX.ma.in;by_cases qc:cx u ⟨21,a,b⟩ < 0\/(x.f.stack.length:Int) < cx u ⟨21,a,b⟩
 ·have x9:jT u x ⟨21,a,b⟩=({x with st:=true}:Sx).res:=if_pos qc;rw[x9];generalize cx u ⟨21,a,b⟩=n at QM qc;obtain⟨p2,c2,r3,_⟩:=hX.rest ht hs.xl (m:=0) (by omega);refine bS au func147 I3 FV rfl ?_;conv=>whnf
  refine ay jg ?_;conv=>whnf
  repeat' ((first|refine dK QL ?_|refine aT QM ?_|refine aq ?_|refine aj ?_|refine ptr ?_)<;>conv=>whnf)
  apply ax<;>intro g;all_goals conv=>whnf
  ·refine hX.stuck (λh1 fe fD e1=>?_);conv=>whnf
   exact⟨B,fe,fD⟩
  ·refine ld r3 ?_;conv=>whnf
   refine b8 ?_;conv=>whnf
   refine hX.stuck (λh1 fe fD e1=>?_);conv=>whnf
   exact⟨B,fe,fD⟩
 have QS:cx u ⟨21,a,b⟩=if 0<=find u a b then ((br u (find u a b)).args.length:Int)+1 else -1:=rfl
 have hfa:0<=find u a b:=by
  rw[QS]at qc;split at qc
  ·assumption
  ·simp at qc
 have D2:1<=cx u ⟨21,a,b⟩:=by
  rw[QS,if_pos hfa];omega
 clear QS;obtain⟨v0,pQ⟩:∃ v0,(x.f.stack.drop (x.f.stack.length-(cx u ⟨21,a,b⟩).toNat)).getD 0 cJ=v0:=⟨_,rfl⟩
 have x9:=Dk qc pQ;generalize cx u ⟨21,a,b⟩=n at *;have rJ:0<=n/\n<=x.f.stack.length:=by omega
 obtain⟨m,hm⟩:∃ m,m=x.f.stack.length-n.toNat:=⟨_,rfl⟩
 rw[<-hm]at x9 pQ;generalize jT u x ⟨21,a,b⟩=res at x9 ⊢;obtain⟨p2,c2,r3,LD,J5,_⟩:=hX.rest ht hs.xl (m:=m) (by omega);have Hs:(((x.f.stack.map bR).length:Int)-n).toNat=m:=by omega
 have BY:(x.f.stack.drop m).length=n.toNat:=by simp;omega
 have R1:0 < (x.f.stack.drop m).length:=by omega
 have FO:(x.f.stack.drop m)[0]=v0:=by rw[<-pQ,rE R1]
 have aaN:v0∈x.f.stack:=by
  rw[<-FO];exact List.mem_of_mem_drop (List.getElem_mem _)
 have aaO:=hs.jy.2.2.2.2.2 v0 aaN;have u0:=hs.len.2;have hz:∀(h1:Heap) (oa:Option Addr),h.le h1->(c2≠(((x.f.stack.map bR).length:Int)-n).toNat->oa=p2.map λa=>a.add ((((x.f.stack.map bR).length:Int)-n).toNat*2))->(c2=(((x.f.stack.map bR).length:Int)-n).toNat->oa=p2) ->
   nT h1 (.slice oa ((x.f.stack.map bR).length-(((x.f.stack.map bR).length:Int)-n).toNat) (c2-m)) (x.f.stack.drop m):=by
  rw[Hs];exact λh1 oa l1 k1 k2=>(J5 oa k1 k2).le l1
 refine bS au func147 I3 FV rfl ?_;conv=>whnf
 refine ay jg ?_;conv=>whnf
 repeat' ((first|refine dK QL ?_|refine aT QM ?_|refine aq ?_|refine aj ?_|refine ptr ?_)<;>conv=>whnf)
 refine bL ?_;conv=>whnf
 refine ld r3 ?_;conv=>whnf
 refine bL ?_;conv=>whnf
 have hsz:(List.map bR x.f.stack).length-(((List.map bR x.f.stack).length:Int)-n).toNat=((x.f.stack.drop m).map bR).length:=by simp;omega
 repeat' ((first|exact trivial|apply And.intro|refine ld r3 ?_|refine ld (aX l1 r3) ?_|refine aq ?_|refine aj ?_|refine dI [] rfl (λb1 h1 gI ee1 l1 g1=>?_)|refine Go.Proofs.sub (λoa q1 q2=>?_))<;>conv=>whnf)
 all_goals
  refine mb.MI (hz h1 oa l1 q1 q2) ?_;conv=>whnf
  refine cY (h0:=h) (xs:=[]) (ys:=(x.f.stack.drop m).map bR) (B:=[b1]) (dP g1) (by simpa using gI) l1 rfl hsz (λy hy=>by obtain⟨w,_,rfl⟩:=List.mem_map.1 hy;rfl) (jh _) rfl (by simp;omega) (by simp;omega) ?_;intro v' h2 Bg k1 k2 k3 k4 k5;have zn:cq h2 v' (x.f.stack.drop m) Bg:=by rw[List.nil_append]at k2;exact k2
  have hf:=zn.form;obtain⟨pg,cg,rfl,_⟩:=hf;conv=>whnf
  have F7:=hX.mono k1;have oE:XS h0 h2 bx [.slice p u.J.length cc,.slice q u.methods.length d] u x B:=F7.1;have J6:Tp h2 bx x.fs.length bf:=by obtain⟨c0,q0⟩:=ht;exact⟨c0,aX k1 q0⟩
  have aaM:=bK k1 QL;refine(zn.two R1).elim λbg htw=>?_;have hpg:=htw.1;subst hpg;have QT:=htw.2.1;rw[FO]at QT;have w0:=aK QT (i:=0) rfl;have w1:=aK QT (i:=1) rfl;have abP:((x.f.stack.drop m).map bR).length=(x.f.stack.drop m).length:=by simp
  repeat' ((first|refine ld w0 ?_|refine aq ?_|refine aj ?_|refine ptr ?_)<;>conv=>whnf)
  apply bY<;>intro gr;all_goals conv=>whnf
  ·refine oE.stuck (λh3 kL rT e3=>?_);conv=>whnf
   rw[x9,if_pos gr];exact⟨B,kL,F7.2.1.trans rT⟩
  have YC:¬v0.ref=false:=by rw[gr];simp
  have QU:=aaO.1 gr;repeat' ((first|exact trivial|apply And.intro|refine ld w1 ?_|refine aq ?_|refine ptr ?_)<;>conv=>whnf)
  all_goals
   refine aD (uA oE hs ok v0.n a QU (by omega)) (λv ht3 hh=>?_);refine hh.2.1.elim λbn hv=>hv.elim λon hv=>?_;subst hv;refine hh.1.elim λBt3 YD=>?_;have Ip:=YD.1;have nZ:=hh.2.2;have YE:=F7.2.1.trans YD.2.1;have WH:=YD.2.1;have rt3:=YD.2.2;by_cases dh:(bB u x v0.n a).bad
   ·have r9:=Ip.kT.1;have gV:=Ip.kT.2.1;conv=>whnf
    refine ld r9 ?_;conv=>whnf
    apply dS<;>intro g;all_goals conv=>whnf
    ·rw[x9,if_neg YC,if_pos dh];exact⟨Bt3,Ip,YE⟩
    ·refine ld gV ?_;conv=>whnf
     refine fX (dh.resolve_left (by rw[g];simp)) ?_;conv=>whnf
     rw[x9,if_neg YC,if_pos dh];exact⟨Bt3,Ip,YE⟩
   have hg:=nZ dh;have OP:=hg.1;have dD:=hg.2.1;have sH:=ku hs dh;refine hg.2.2.elim λbo hg=>hg.elim λco hg=>?_;have mS:=hg.1;have hp:=hg.2;simp only[Value.pointer.injEq,Option.some.injEq,Addr.mk.injEq,and_true]at hp;have zD:=hp.1;have E2:=hp.2;subst zD;subst E2;rw[dD]at Ip dh x9;have lq:0<=(aF x.objs v0.n).cls/\up u.J (aF x.objs v0.n).cls a=true:=by
    unfold fq at sH;simp at sH;exact sH.2 ha.1
   have hO:=hs.zk _ (iw (objs:=x.objs) OP QU.2);have WI:(aF x.objs v0.n).cls < u.J.length:=by
    rcases hO.2 with ⟨h2,_⟩|⟨_,h2,_⟩
    ·omega
    ·exact h2
   refine(Ip.jF OP QU.2).elim λYB hq=>hq.elim λRX hq=>hq.elim λvv hq=>hq.elim λBi hq=>?_;have pF:=hq.1;rw[mS]at pF;simp only[Option.some.injEq,Value.slice.injEq,Addr.mk.injEq,and_true,true_and]at pF;have eX:=pF.1;subst eX;have q3:=hq.2.1;have r9:=Ip.kT.1;have gV:=Ip.kT.2.1;rw[dZ]at r9;rw[wV]at gV;have hut:=hX.un.le Ip.ma.le;have aaP:=tX [.slice p u.J.length cc,.slice q u.methods.length d] u (aF x.objs v0.n).cls b ht3 hut ok (by omega) WI;have Qw:0<=find u (aF x.objs v0.n).cls b/\find u (aF x.objs v0.n).cls b < u.methods.length:=⟨hsend hfa _ WI lq.2,(ji u _ _).2⟩
   have aaQ:=Ip.kT.2.2.2.2.2;refine aaQ.elim λpa hr=>hr.elim λca hr=>hr.elim λqa hr=>hr.elim λda hr=>?_;have he:=hr.1;simp only[List.cons.injEq,Value.slice.injEq,true_and,and_true]at he;have WD:=he.1.1;have WE:=he.1.2;have Hu:=he.2.1;have WG:=he.2.2;subst WD WE Hu WG;have WJ:=hr.2.2.2.1;generalize (aF x.objs v0.n).cls=cl at *;generalize hkg:find u cl b=kk at *;conv=>whnf
   repeat' ((first|refine ld r9 ?_|refine ld gV ?_|refine aq ?_|refine aj ?_|refine ptr ?_)<;>conv=>whnf)
   repeat' ((first|exact trivial|apply And.intro|refine dK WJ ?_|refine ld q3 ?_|refine aT aaP ?_)<;>conv=>whnf)
   all_goals
    have WK:Tp ht3 bx x.fs.length bf:=by obtain⟨c0,q0⟩:=J6;exact⟨c0,by rw[rt3];exact q0⟩
    have aaR:cq ht3 (.slice (some ⟨bg,0,none⟩) ((x.f.stack.drop m).map bR).length cg) (x.f.stack.drop m) Bg:=zn.aG λb U o ho=>by
     rw[WH.ic b (by rw[ho];simp) (λhx=>by obtain⟨o2,J8⟩:=fI b hx;rw[k3 b U]at J8;cases J8)];exact ho
    have aaS:∀ b∈Bg,b ∉ bx::Bt3:=λb U hx=>by
     rcases WH.new b hx with hy|hy
     ·obtain⟨o2,J8⟩:=fI b hy;rw[k3 b U]at J8;cases J8
     ·obtain⟨o2,J8⟩:=zn.in b U;rw[hy]at J8;cases J8
    refine WK.elim λcf Hq=>?_;refine ld Hq ?_;conv=>whnf
    apply ax<;>intro gf;all_goals conv=>whnf
    ·refine aD (j7 Ip 6) (λv h3 hh=>?_);conv=>whnf
     rw[x9,if_neg YC,if_neg dh,if_pos (by omega)];exact XE.trans YE hh.QH
    ·refine(Ip.rest WK hs.xl (m:=m) (by omega)).elim λp3 hr=>hr.elim λc3 hr=>?_;have w3:=hr.1;have wc:=hr.2.1;have WC:=hr.2.2.2;rw[<-Hs]at WC;repeat' ((first|exact trivial|apply And.intro|refine ld w3 ?_|refine aq ?_|refine aj ?_)<;>conv=>whnf)
     all_goals
      refine WC _ (λh3 hh=>?_);rw[Hs]at hh;refine hh.elim λB3 jj=>?_;have kL:=jj.1;have rT:=YE.trans jj.2.1;refine(XM.z6 kL (show(x.fs++[_]).length<=1000 by simp;omega)).elim λpf hg=>hg.elim λcf2 hg=>hg.elim λIo grow=>?_;have QN:=kL.kT.2.2.2.2.2;refine QN.elim λpa hr=>hr.elim λca hr=>hr.elim λqa hr=>hr.elim λda hr=>?_;have he:=hr.1;simp only[List.cons.injEq,Value.slice.injEq,true_and,and_true]at he;have WD:=he.1.1;have WE:=he.1.2;have Hu:=he.2.1;have WG:=he.2.2;subst WD WE Hu WG;have J7:=hr.2.2.2.1;have hog:cq h3 (.slice (some ⟨bg,0,none⟩) ((x.f.stack.drop m).map bR).length cg) (x.f.stack.drop m) Bg:=aaR.aG λb U o ho=>by
       rw[jj.2.1.ic b (by rw[ho];simp) (λhx=>?_)]
       ·exact ho
       ·exact aaS b U hx
      have hfk:∀ {K:Value->Heap->Prop} {E:List PanicEntry->Heap->Prop},_->jA prog 87 [.agg #[.slice p u.J.length cc,.slice q u.methods.length d],.int .i64 kk,.slice (some ⟨bg,0,none⟩) ((x.f.stack.drop m).map bR).length cg] h3 K E:=λ{K E} hK=>mH _ u kk (x.f.stack.drop m) _ h3 (hX.un.le kL.ma.le) Qw (hog.read (by simp;omega)) (by omega) (by have:=(hu.br Qw).1.2.2.2.2.1;omega) hK;conv=>whnf
      repeat' ((first|exact trivial|apply And.intro|refine dK J7 ?_|refine ld Io ?_|refine ld (aX l4 Io) ?_|refine hfk (λh4 p5 n5 c5 p6 n6 c6 B5 B6 l4 o5 o6 n56 f56=>?_))<;>conv=>whnf)
      all_goals
       refine grow h4 l4 (gW u kk (x.f.stack.drop m)) (B5++B6) _ _ ⟨_,_,B5,B6,rfl,o5,o6,rfl⟩ n56 f56 rfl rfl rfl rfl (by simp) (λp' c' h5 QO=>?_);conv=>whnf
       refine QO _ (λh6 WB=>?_);conv=>whnf
       rw[x9,if_neg YC,if_neg dh,if_neg (by omega)];exact XE.trans rT WB
def Kp (x y:Sx):Prop:=y.fs=x.fs/\y.f.pc=x.f.pc/\y.f.ah=x.f.ah
theorem Kp.refl (x:Sx):Kp x x:=⟨rfl,rfl,rfl⟩
theorem Kp.trans {x y z:Sx} (a:Kp x y) (b:Kp y z):Kp x z:=⟨b.1.trans a.1,b.2.1.trans a.2.1,b.2.2.trans a.2.2⟩
theorem s7 (x:Sx):Kp x (aY x).2:=by unfold aY;split<;>exact⟨rfl,rfl,rfl⟩
theorem iy (x:Sx):Kp x (aC x).2:=by unfold aC;split<;>exact s7 x
theorem kM (x:Sx):Kp x (aE x).2:=by unfold aE;split<;>exact s7 x
theorem jL (x:Sx) (v:Vl):Kp x (dg x v):=Di x v
theorem mI (x:Sx) (k:Int):Kp x (cz x k):=by unfold cz;split<;>exact⟨rfl,rfl,rfl⟩
theorem uB (u:aU) (x:Sx) (n k:Int):Kp x (bB u x n k):=by
 unfold bB;split
 ·exact Kp.refl x
 ·split
  ·exact mI x 2
  ·split<;>exact⟨rfl,rfl,rfl⟩
theorem By (x:Sx) (o:Ob):Kp x (jq x o):=by
 unfold jq;split
 ·exact Kp.refl x
 ·exact(show Kp x {x with objs:=x.objs++[o]}from⟨rfl,rfl,rfl⟩).trans (jL _ _)
theorem WL (x:Sx) (op:Int):Kp x (JZ x op):=by
 unfold JZ;simp only;split
 ·exact((iy x).trans (iy _)).trans (jL _ _)
 ·exact((iy x).trans (iy _)).trans (mI _ _)
theorem J9 (x:Sx) (k:Int):Kp x (nB x k):=by
 unfold nB;split
 ·exact(iy x).trans (By _ _)
 ·exact((iy x).trans (mI _ _)).trans (By _ _)
theorem M6 (x:Sx):Kp x (sy x):=by
 unfold sy;simp only;split
 ·exact kM x
 ·split
  ·exact(kM x).trans (mI _ _)
  ·exact(kM x).trans (jL _ _)
theorem Gf (u:aU) (x:Sx) (k:Int) (s:Bool):Kp x (uy u x k s):=by
 cases s
 ·have h1:=((iy x).trans (kM _)).trans (uB u _ (aE (aC x).2).1 (-1-k));unfold uy;simp only[Bool.false_eq_true,if_false];split
  ·exact h1
  ·split
   ·exact h1.trans (mI _ _)
   ·exact h1.trans (jL _ _)
 ·have h1:=(((s7 x).trans (iy _)).trans (kM _)).trans (uB u _ (aE (aC (aY x).2).2).1 (-1-k));unfold uy;simp only[if_true];split
  ·exact h1
  ·split
   ·exact h1.trans (mI _ _)
   ·exact h1.trans ⟨rfl,rfl,rfl⟩
theorem Dl (u:aU) (x:Sx) (k i:Int) (s:Bool):Kp x (pE u x k i s):=by
 cases s
 ·have h1:=(kM x).trans (uB u _ (aE x).1 k);unfold pE;simp only[Bool.false_eq_true,if_false];split
  ·exact h1
  ·exact h1.trans (jL _ _)
 ·have h1:=((s7 x).trans (kM _)).trans (uB u _ (aE (aY x).2).1 k);unfold pE;simp only[if_true];split
  ·exact h1
  ·exact h1.trans ⟨rfl,rfl,rfl⟩
theorem M7 (u:aU) (x:Sx) (k:Int):Kp x (sA u x k):=by
 unfold sA;simp only;split
 ·exact kM x
 ·split
  ·exact(kM x).trans (mI _ _)
  ·exact(kM x).trans (jL _ _)
theorem Ka (x:Sx) (i:dX):Kp x (fh x i):=by
 unfold fh;split
 ·exact jL _ _
 split
 ·exact jL _ _
 split
 ·exact jL _ _
 split
 ·exact s7 x
 split
 ·exact s7 x
 split
 ·exact((s7 x).trans (jL _ _)).trans (jL _ _)
 split
 ·exact WL _ _
 split
 ·split<;>exact iy x
 ·exact Kp.refl x
theorem M8 (u:aU) (x:Sx) (i:dX):Kp x (gZ u x i):=by
 unfold gZ;split
 ·exact By _ _
 split
 ·exact J9 _ _
 split
 ·exact M6 _
 split
 ·exact Gf _ _ _ _
 split
 ·exact Gf _ _ _ _
 split
 ·exact Dl _ _ _ _ _
 split
 ·exact Dl _ _ _ _ _
 split
 ·exact M7 _ _ _
 ·exact Kp.refl x
theorem Kb (x:Sx) (i:dX):Kp x (eI x i).2:=by
 unfold eI;split
 ·exact(iy x).trans (iy _)
 split
 ·exact(iy x).trans (iy _)
 split
 ·exact kM x
 ·exact Kp.refl x
theorem M9 {h0 h:Heap} {bx:Nat} {us:List Value} {u:aU} {x:Sx} {B:List Nat} (hX:XS h0 h bx us u x B) (kind a b:Int) (hk:kind < 12\/19 < kind) :
  bI prog 153 [.pointer (some ⟨bx,0,none⟩),.agg #[.int .i64 kind,.int .i64 a,.int .i64 b]] h λ_ h'=>XR h0 h bx us u B (gZ u x ⟨kind,a,b⟩) h':=by
 have hp:gZ u x ⟨kind,a,b⟩=x:=by
  unfold gZ;simp only;repeat rw[if_neg (by omega)]
 rw[hp];refine bS au func153 PL N7 rfl ?_;conv=>whnf
 repeat' ((first|refine bL ?_)<;>conv=>whnf)
 exact⟨B,hX,Ev.refl _ _,rfl⟩
def fB (x:Sx):Sx:={x with f:={x.f with pc:=x.f.pc+1} }
def yA (u:aU) (x:Sx) (i:dX):bZ × Bool × Int :=
 if i.kind=22 then wH x
 else if i.kind=20\/i.kind=21 then jT u x i
 else if i.kind=23 then (if (aE x).1=0 then (cz (aE x).2 2).res else if (aE x).2.st=false then mG u (aE x).1 (aE x).2.Bm (aE x).2.st (aE x).2.ft else (aE x).2.res)
 else if 8<=i.kind/\i.kind<=11 then (if (eI (fB x) i).1=true then ({ (eI (fB x) i).2 with f:={ (eI (fB x) i).2.f with pc:=i.a} }:Sx).res else (eI (fB x) i).2.res)
 else (fB (gZ u (fh x i) i)).res
theorem kU.aaT {u:aU} {x:Sx} (h:kU u x) (D0:x.f.pc < (br u x.f.ah).code.length):kU u (fB x):=by
 obtain⟨h1,h2,h3,⟨k1,k2,k3,k4,k5,k6⟩,h5⟩:=h;exact⟨h1,h2,h3,⟨k1,⟨by show 0<=x.f.pc+1;omega,by show x.f.pc+1<=((br u x.f.ah).code.length:Int);omega⟩,k3,k4,k5,k6⟩,h5⟩
structure WM (u:aU) (x:Sx):Prop where
 ok:kU u x
 fs:∀ g∈x.fs,EW u x.objs.length g
 st:x.st=false
 ft:x.ft=0
 pc:x.f.pc < (br u x.f.ah).code.length
 said:x.said.length<=300
theorem QV {h0 h:Heap} {bx:Nat} {us:List Value} {u:aU} {x:Sx} {B:List Nat} (hX:XS h0 h bx us u x B) (hs:WM u x) (hu:eC u) (kind a b:Int) (hi:eH u (br u x.f.ah) ⟨kind,a,b⟩) :
  bI prog 88 [.pointer (some ⟨bx,0,none⟩),.agg #[.int .i64 kind,.int .i64 a,.int .i64 b]] h λ_ h'=>XE h0 h bx us u B (yA u x ⟨kind,a,b⟩) h':=by
 obtain⟨hs,sF,dZ,wV,D0,OO⟩:=hs;have ok:=hu.1;have hmT:=hu.br hs.jy.1;have lq:∀ m∈u.methods,m.code.length<=1000:=λm hm=>by have:=(hu.2.2.2.1 m hm).2.1.2.1;omega
 have EP:=hs.jy.2.1;have abQ:=lq _ (ir hs.jy.1);have Ca:yA u x ⟨kind,a,b⟩=if kind=22 then wH x
  else if kind=20\/kind=21 then jT u x ⟨kind,a,b⟩
  else if kind=23 then (if (aE x).1=0 then (cz (aE x).2 2).res else if (aE x).2.st=false then mG u (aE x).1 (aE x).2.Bm (aE x).2.st (aE x).2.ft else (aE x).2.res)
  else if 8<=kind/\kind<=11 then (if (eI (fB x) ⟨kind,a,b⟩).1=true then ({ (eI (fB x) ⟨kind,a,b⟩).2 with f:={ (eI (fB x) ⟨kind,a,b⟩).2.f with pc:=a} }:Sx).res else (eI (fB x) ⟨kind,a,b⟩).2.res)
  else (fB (gZ u (fh x ⟨kind,a,b⟩) ⟨kind,a,b⟩)).res:=rfl
 generalize yA u x ⟨kind,a,b⟩=res at Ca ⊢;by_cases D4:kind=22
 ·subst D4;refine bS au func88 PJ GP rfl ?_;conv=>whnf
  refine aD (QI hX hs sF lq) (λv h1 hh=>?_);conv=>whnf
  rw[Ca];exact hh
 rw[if_neg D4]at Ca;by_cases MW:kind=20
 ·subst MW;have:=(aI (p:=7) (q:=0) rfl).1 hi;simp[bA]at this;have ha:=this.1.1;refine bS au func88 PJ GP rfl ?_;conv=>whnf
  refine aD (Ht hX hs hu a b dZ wV ha) (λv h1 hh=>?_);conv=>whnf
  rw[Ca];exact hh
 by_cases MX:kind=21
 ·subst MX;have:=(aI (p:=5) (q:=9) rfl).1 hi;simp[bA]at this;have ha:=this.1;refine bS au func88 PJ GP rfl ?_;conv=>whnf
  refine aD (Hv hX hs hu a b dZ wV ha (λhf c hc zW=>(vJ hu ha.2 hf (c.toNat+1) (by omega) hc zW).1)) (λv h1 hh=>?_);conv=>whnf
  rw[Ca];exact hh
 rw[if_neg (by omega)]at Ca;by_cases JU:kind=23
 ·subst JU;rw[if_pos rfl]at Ca;have jW:=hs.ref;have Hq:=wG hX hs;have OQ:=kM x;have sQ:(aE x).2.objs=x.objs:=(jK x).2.1;generalize (aE x).1=n at *;generalize (aE x).2=y at *;refine bS au func88 PJ GP rfl ?_;conv=>whnf
  refine aD Hq (λv h1 hh=>?_);have hv:=hh.1;subst hv;refine hh.2.elim λB1 gj=>?_;have fe:=gj.1;conv=>whnf
  apply ax<;>intro g;all_goals conv=>whnf
  ·refine aD (j7 fe 2) (λv h2 hh=>?_);conv=>whnf
   rw[Ca,if_pos g];exact XE.trans gj.2.1 hh.QH
  ·have r9:=fe.kT.1;refine ld r9 ?_;conv=>whnf
   apply bY<;>intro g2;all_goals conv=>whnf
   ·have hn:0 < n/\n<=y.objs.length:=by rw[sQ];omega
    have hO:=jW.1.zk _ (iw (objs:=y.objs) hn.1 hn.2);have E0 : -2<=(aF y.objs n).cls/\(aF y.objs n).cls < u.J.length:=by
     rcases hO.2 with ⟨h2,_⟩|⟨h2,h3,_⟩
     ·have:=ok.1;omega
     ·omega
    have hlen:=jW.1.len;have Qn:=jW.1.nf;have gA:∀ g∈y.Bm.ag,0<=g.ah/\g.ah < u.methods.length:=λg hg=>by
     have WN:g∈y.fs++[y.f]:=hg;simp only[List.mem_append,List.mem_singleton]at WN;rcases WN with WN|rfl
     ·rw[OQ.1]at WN;exact(sF g WN).1
     ·exact jW.1.jy.1
    have E6:∀ m∈u.methods,∀ c∈m.catches,(0<=c.hi/\c.hi<=1000)/\0<=c.cls:=λm hm c hc=>by
     have Hg:=hu.2.2.2.1 m hm;have h1:=Hg.2.2.2 c hc;have h2:=Hg.2.1.2.1;obtain⟨q1,q2,q3,_⟩:=h1;omega
    refine aD (Bu fe ok n hn (show y.objs.length<=1000 by omega) (show(y.fs++[y.f]).length<=1000 by simp;omega) E0 gA E6) (λv h2 hh=>?_);conv=>whnf
    rw[Ca,if_neg g,if_pos g2];exact XE.trans gj.2.1 hh
   ·rw[Ca,if_neg g,if_neg (by rw[g2];simp)];exact⟨B1,fe,gj.2.1⟩
 rw[if_neg JU]at Ca;by_cases kj:8<=kind/\kind<=11
 ·rw[if_pos kj]at Ca;obtain⟨bf,ht⟩:=hX.tp;have jg:=ux hX ht hs.Bq;have hz:=hX.jP ht;have hsb:=hs.aaT D0;have OQ:=Kb (fB x) ⟨kind,a,b⟩;refine bS au func88 PJ GP rfl ?_;conv=>whnf
  refine cy D4 ?_;conv=>whnf
  repeat' ((first|refine bL ?_)<;>conv=>whnf)
  refine ay (er _ _ _ _) ?_;conv=>whnf
  refine b8 ?_;conv=>whnf
  refine ay jg ?_;conv=>whnf
  refine ld hz.1 ?_;conv=>whnf
  refine aj ?_;conv=>whnf
  refine hz.2 _ _ (λh1 hh=>?_);refine hh.elim λB1 gj=>?_;have fe:XS h0 h1 bx us u (fB x) B1:=gj.1;conv=>whnf
  refine aD (M5 fe hsb kind a b) (λv h2 hh=>?_);have hv:=hh.1;subst hv;refine hh.2.elim λB2 fU=>?_;have oE:=fU.1;have gP:=gj.2.1.trans fU.2.1;have J6:Tp h2 bx (eI (fB x) ⟨kind,a,b⟩).2.fs.length bf:=by
   obtain⟨c0,q0⟩:=ht;exact⟨c0,by rw[fU.2.2,gj.2.2,OQ.1];exact q0⟩
  have R0:=oE.jP J6;have zz:(eI (fB x) ⟨kind,a,b⟩).2.fs.length=x.fs.length:=by rw[OQ.1];rfl
  rw[zz]at R0;conv=>whnf
  apply dS<;>intro g;all_goals conv=>whnf
  ·refine R0.2 _ _ (λh3 jj=>?_);conv=>whnf
   rw[Ca,if_pos g];exact XE.trans gP jj.QH
  ·rw[Ca,if_neg (by rw[g];simp)];exact⟨B2,oE,gP⟩
 rw[if_neg kj]at Ca;have LN:QF u x ⟨kind,a,b⟩:=by
  refine⟨λhk=>?_,λhk=>?_,hi.vM⟩
  ·simp only at hk;have hl:=hs.jy.2.2.1;rcases hk with rfl|rfl;all_goals
    have:=(aI (p:=2) (q:=0) rfl).1 hi;simp[bA]at this;show 0<=a/\a < (x.f.locals.length:Int);omega
  ·simp only at hk;rcases hk with rfl|rfl|rfl;all_goals
    have:=(aI (p:=6) (q:=0) rfl).1 hi;simp[bA]at this;exact this.1
 have WO:∀(h1:Heap) (B1:List Nat),XS h0 h1 bx us u (fh x ⟨kind,a,b⟩) B1->bI prog 153 [.pointer (some ⟨bx,0,none⟩),.agg #[.int .i64 kind,.int .i64 a,.int .i64 b]] h1 λ_ h'=>XR h0 h1 bx us u B1 (gZ u (fh x ⟨kind,a,b⟩) ⟨kind,a,b⟩) h':=by
  intro h1 B1 fe;by_cases hk:kind < 12\/19 < kind
  ·exact M9 fe kind a b hk
  ·have hp:fh x ⟨kind,a,b⟩=x:=by
    unfold fh;simp only;repeat rw[if_neg (by omega)]
   rw[hp]at fe ⊢;exact QG fe hs ok kind a b LN
 have OQ:=(Ka x ⟨kind,a,b⟩).trans (M8 u (fh x ⟨kind,a,b⟩) ⟨kind,a,b⟩);refine bS au func88 PJ GP rfl ?_;conv=>whnf
 refine cy D4 ?_;conv=>whnf
 repeat' ((first|refine bL ?_)<;>conv=>whnf)
 refine ay (er _ _ _ _) ?_;conv=>whnf
 refine bL ?_;conv=>whnf
 refine aD (M4 hX hs kind a b LN (by omega)) (λv h1 hh=>?_);refine hh.elim λB1 gj=>?_;conv=>whnf
 refine aD (WO h1 B1 gj.1) (λv h2 hh=>?_);refine hh.elim λB2 fU=>?_;have oE:=fU.1;have gP:=gj.2.1.trans fU.2.1;generalize gZ u (fh x ⟨kind,a,b⟩) ⟨kind,a,b⟩=y at oE OQ Ca;refine oE.tp.elim λbf ht=>?_;have sP:y.fs.length<=1000:=by rw[OQ.1];exact hs.Bq
 have hz:=oE.jP ht;have hyp:=OQ.2.1;conv=>whnf
 refine ay (ux oE ht sP) ?_;conv=>whnf
 refine ld hz.1 ?_;conv=>whnf
 refine aj ?_;conv=>whnf
 refine hz.2 _ _ (λh3 jj=>?_);conv=>whnf
 rw[Ca];exact XE.trans gP jj.QH
theorem yB {el:TypeId} {h h1:Heap} {b:Nat} {t:TypeId} {l:List Vl} {vs:List Value} {m:Nat} {K:Value->Heap->Prop} (hl:h.le h1) (hg:h1 b=some (.cells #[] t (0,0))) (U:h b=none) (hv:vs=(l.map bR).flatten) (hm:m=(l.map bR).length) (hs:(l.map bR).length<=1000000)
  (hk:∀ p' c' h2 B',h.le h2->cq h2 (.slice p' (l.map bR).length c') l B'->(∀ b∈B',h b=none)->K (.slice p' (l.map bR).length c') h2):App 16 2 [.bool false,.int .i64 0] el h1 (some ⟨b,0,none⟩) 0 0 m vs K:=by
 refine cY (h0:=h) (xs:=[]) (ys:=l.map bR) (B:=[b]) (dP hg) (by simpa using U) hl hv hm (λy hy=>by obtain⟨w,_,rfl⟩:=List.mem_map.1 hy;rfl) (by rw[hv];exact jh l) rfl (by simp at hs ⊢;omega) (by simp at hs ⊢;omega) ?_;intro v' h2 B2 k1 k2 k3 k4 k5;rw[List.nil_append]at k2;obtain⟨p',c',rfl,_⟩:=cn.form k2;exact hk p' c' h2 B2 k1 k2 k3
theorem Af {el:TypeId} {h h1:Heap} {b:Nat} {t:TypeId} {l:List Int} {vs:List Value} {m:Nat} {K:Value->Heap->Prop} (hl:h.le h1) (hg:h1 b=some (.cells #[] t (0,0))) (U:h b=none) (hv:vs=(l.map bO).flatten) (hm:m=(l.map bO).length) (hs:(l.map bO).length<=1000000)
  (hk:∀ p' c' h2 B',h.le h2->dV h2 (.slice p' (l.map bO).length c') l B'->(∀ b∈B',h b=none)->K (.slice p' (l.map bO).length c') h2):App 8 1 [.int .i64 0] el h1 (some ⟨b,0,none⟩) 0 0 m vs K:=by
 refine cY (h0:=h) (xs:=[]) (ys:=l.map bO) (B:=[b]) (dP hg) (by simpa using U) hl hv hm (λy hy=>by obtain⟨w,_,rfl⟩:=List.mem_map.1 hy;rfl) (by rw[hv,dA];exact dw l) rfl (by simp at hs ⊢;omega) (by simp at hs ⊢;omega) ?_;intro v' h2 B2 k1 k2 k3 k4 k5;rw[List.nil_append]at k2;obtain⟨p',c',rfl,_⟩:=cn.form k2;exact hk p' c' h2 B2 k1 k2 k3
theorem Acc.E8 {α:Type} {R:Heap->List Value->α->List Nat->Prop} {sz:Nat} {h0 h:Heap} {A:List Nat} {b:Nat} {t:TypeId} (hl:h0.le h) (U:h0 b=none) (hg:h b=some (.cells #[] t (0,0))) (hA:b ∉ A) (nd:Nd A) (fr:∀ b∈A,h0 b=none) (LI:∀ b∈A,∃ o,h b=some o):Acc R sz h0 h (.slice (some ⟨b,0,none⟩) 0 0) [] [b] A :=
 ⟨hl,⟨[],[b],[],dP hg,.nil,rfl⟩,λa=>by
  simp only[List.count_append,List.count_cons,List.count_nil];by_cases ha:b=a
  ·subst ha;simp[List.count_eq_zero.2 hA]
  ·simp[ha];exact nd a,λx hx=>by
  rcases List.mem_append.1 hx with hx|hx
  ·rw[List.mem_singleton.1 hx];exact U
  ·exact fr x hx,LI⟩
theorem Ag (mc:List Value) (M:bZ) (h:Heap) (hr:xZ h mc M) :
  bI prog 50 [.agg ⟨mc⟩] h λv h'=>h.le h'/\∃ F5 B,v=.agg ⟨F5⟩/\gJ h' F5 M B/\Nd B/\∀ b∈B,h b=none:=by
 obtain⟨vo,vf,vs,rfl,s1,s2,ho,hf,hs⟩:=hr;obtain⟨po,co,rfl,_,_⟩:=ho.len;obtain⟨pf,cf,rfl,_,_⟩:=hf.len;have On:=hs;obtain⟨jW,_,ps,cs,rfl,_⟩:=hs;refine bS au func50 F50 ZK rfl ?_;unfold aB;conv=>whnf
 refine dI [] rfl (λb0 h1 uY e0 l1 g0=>?_);conv=>whnf
 refine fm [1,2,3,4] [1,2,3] (λs:Nat × Heap × Option Addr × Nat × List Nat=>s.1<=M.objs.length/\Acc lu 2 h s.2.1 (.slice s.2.2.1 s.1 s.2.2.2.1) (M.objs.take s.1) s.2.2.2.2 []) (λs=>M.objs.length-s.1)
  (λs=>([.l 1 0,.l 2 0,.l 3 0,.v (.int .i64 s.1)],
   [some (aB (.slice po M.objs.length co) (.slice pf M.ag.length cf) (.slice ps (M.said.map bO).length cs) M),some [.slice none 0 0,.slice none 0 0,.slice none 0 0,.int .i64 0,.int .i64 0,.bool false,.int .i64 0],
    some (aB (.slice s.2.2.1 s.1 s.2.2.2.1) (.slice pf M.ag.length cf) (.slice ps (M.said.map bO).length cs) M)],s.2.1))
  (0,h1,some ⟨b0,0,none⟩,0,[b0]) ⟨by omega,Acc.E8 l1 uY g0 (by simp) (λ_=>by simp) (by simp) (by simp)⟩ rfl ?_
 rintro⟨i,h2,p,c,B⟩ ⟨hi,ac⟩;simp only at hi ac ⊢;unfold aB;conv=>whnf
 apply ax<;>intro g;all_goals conv=>whnf
 ·have cG:i < M.objs.length:=by omega
  have e:=(ho.le ac.le (λ_ _ hx=>hx.le ac.le)).get cG;obtain⟨bb,off,xs,hq,e1,vv,rfl,e2⟩:=e;have Jm:=e2;obtain⟨e2l,_,pv,cv,rfl,_⟩:=e2;have r0:=aK e1 (i:=0) rfl;have r1:=aK e1 (i:=1) rfl;repeat' ((first|exact trivial|apply And.intro|refine aq ?_|refine aO hq ?_|refine ld r0 ?_|refine ld r1 ?_|refine ld (aX l3 r0) ?_|refine ld (aX l3 r1) ?_|refine ld (aX l4 r0) ?_|refine dI [] rfl (λb1 h3 rU ee3 l3 g3=>?_)|refine mb.MI (Jm.le l3) ?_|refine yB l3 g3 rU rfl rfl e2l (λp' c' h4 B4 l4 o4 n4=>?_))<;>conv=>whnf)
  all_goals
   refine rC jD xX (a:=M.objs[i]) (Bi:=B4) ac l4 ⟨_,rfl,o4⟩ o4.nd n4 rfl rfl rfl rfl (by simp;omega) (by simp;omega) ?_;intro p' c' h5 B' CX hk;have cO:(M.objs.take i).length=i:=by simp;omega
   rw[List.take_append_getElem cG,cO]at CX;rw[cO];conv=>whnf
   refine aj ?_;conv=>whnf
   exact dm (i+1,h5,p',c',B') ⟨by omega,CX⟩ (by simp only;omega) rfl
 ·have nV:i=M.objs.length:=by omega
  subst nV;rw[List.take_length]at ac;have hA:Nd B:=by have:=ac.nd;simpa using this
  have hBf:∀ b∈B,h b=none:=λb U=>ac.fr b (by simp[U]);have WQ:=ac.own.in xX;refine dI [] rfl (λb5 h6 Ah ee6 l6 g6=>?_);conv=>whnf
  have qw:h b5=none:=by
   cases hh:h b5 with
   | none=>rfl
   | some o=>rw[ac.le b5 o hh]at Ah;cases Ah
  have aaU:b5 ∉ B:=λhx=>by obtain⟨o,ho⟩:=WQ b5 hx;rw[Ah]at ho;cases ho
  refine fm [1,2,3,5] [1,2,3] (λs:Nat × Heap × Option Addr × Nat × List Nat=>s.1<=M.ag.length/\Acc oY 4 h s.2.1 (.slice s.2.2.1 s.1 s.2.2.2.1) (M.ag.take s.1) s.2.2.2.2 B/\eE lu 2 s.2.1 (.slice p M.objs.length c) M.objs B) (λs=>M.ag.length-s.1)
   (λs=>([.l 1 0,.l 2 0,.l 3 0,.v (.int .i64 s.1)],
    [some (aB (.slice po M.objs.length co) (.slice pf M.ag.length cf) (.slice ps (M.said.map bO).length cs) M),some [.slice none 0 0,.slice none 0 0,.slice none 0 0,.int .i64 0,.int .i64 0,.bool false,.int .i64 0],
     some (aB (.slice p M.objs.length c) (.slice s.2.2.1 s.1 s.2.2.2.1) (.slice ps (M.said.map bO).length cs) M)],s.2.1))
   (0,h6,some ⟨b5,0,none⟩,0,[b5]) ⟨by omega,Acc.E8 (Heap.le_trans ac.le l6) qw g6 aaU hA hBf (λb U=>by obtain⟨o,ho⟩:=WQ b U;exact⟨o,l6 b o ho⟩),ac.own.aG jD (cC.of_le l6 _)⟩ rfl ?_
  rintro⟨i,h3,p2,c2,B2⟩ ⟨hi,x8,oo⟩;simp only at hi x8 oo ⊢;unfold aB;conv=>whnf
  apply ax<;>intro g;all_goals conv=>whnf
  ·have cG:i < M.ag.length:=by omega
   have e:=(hf.le x8.le (λ_ _ hx=>hx.le x8.le)).get cG;obtain⟨bb,off,xs,hq,e1,v1,v2,rfl,e2,e3⟩:=e;have Jm:=e2;have e30:=e3;obtain⟨e2l,_,pv,cv,rfl,_⟩:=e2;obtain⟨e3l,_,pw,cw,rfl,_⟩:=e3;refine aq ?_;conv=>whnf
   refine aO hq ?_;conv=>whnf
   refine dK e1 ?_;conv=>whnf
   refine dI [] rfl (λb7 h7 Dm ee7 l7 g7=>?_);conv=>whnf
   refine mb.MI (Jm.le l7) ?_;conv=>whnf
   refine yB l7 g7 Dm rfl rfl e2l (λp8 c8 h8 B8 l8 o8 n8=>?_);conv=>whnf
   refine dI [] rfl (λb9 h9 hb9 ee9 l9 g9=>?_);conv=>whnf
   refine mb.MI (e30.le (Heap.le_trans l8 l9)) ?_;conv=>whnf
   refine yB l9 g9 hb9 rfl rfl e3l (λp10 c10 gH Na D5 WR R2=>?_);conv=>whnf
   have nF:Nd (B8++Na):=by
    intro a;have e1:=o8.nd a;have e2:=WR.nd a;simp only[List.count_append];by_cases hm:a∈Na
    ·have:B8.count a=0:=by
      refine List.count_eq_zero.2 λhx=>?_;obtain⟨o,ho⟩:=o8.in a hx;rw[R2 a hm]at ho;cases ho
     omega
    ·have:=List.count_eq_zero.2 hm;omega
   have fF:∀ b∈B8++Na,h3 b=none:=by
    intro b U;rcases List.mem_append.1 U with U|U
    ·exact n8 b U
    ·cases hh:h3 b with
     | none=>rfl
     | some o=>have:=R2 b U;rw[l8 b o hh]at this;cases this
   refine rC qz VT (a:=M.ag[i]) (Bi:=B8++Na) x8 (Heap.le_trans l8 D5) ⟨_,_,B8,Na,rfl,o8.aG (cC.of_le D5 _),WR,rfl⟩ nF fF rfl rfl rfl rfl (by simp;omega) (by simp;omega) ?_;intro p' c' h5 B' CX hk;have cO:(M.ag.take i).length=i:=by simp;omega
   rw[List.take_append_getElem cG,cO]at CX;rw[cO];conv=>whnf
   refine aj ?_;conv=>whnf
   exact dm (i+1,h5,p',c',B') ⟨by omega,CX,oo.aG jD hk⟩ (by simp only;omega) rfl
  ·have nV:i=M.ag.length:=by omega
   subst nV;rw[List.take_length]at x8;refine dI [] rfl (λb9 h9 hb9 ee9 l9 g9=>?_);conv=>whnf
   refine mb.MI (On.le (Heap.le_trans x8.le l9)) ?_;conv=>whnf
   refine Af l9 g9 hb9 rfl rfl jW (λp10 c10 gH Na D5 WR R2=>?_);conv=>whnf
   have x6:=x8.own.in VT;refine⟨Heap.le_trans x8.le D5,_,B++B2++Na,rfl,⟨_,_,_,B,B2,Na,rfl,oo.aG jD (cC.of_le D5 _),x8.own.aG qz (cC.of_le D5 _),WR,rfl⟩,?_,λb U=>?_⟩
   ·intro a;have e1:=x8.nd a;have e2:=WR.nd a;simp only[List.count_append]at e1 ⊢;by_cases hm:a∈Na
    ·have:B2.count a=0:=List.count_eq_zero.2 λhx=>by obtain⟨o,ho⟩:=x6 a hx;rw[R2 a hm]at ho;cases ho
     have:B.count a=0:=List.count_eq_zero.2 λhx=>by obtain⟨o,ho⟩:=x8.LI a hx;rw[R2 a hm]at ho;cases ho
     omega
    ·have:=List.count_eq_zero.2 hm;omega
   ·simp only[List.mem_append]at U;rcases U with (U|U)|U
    ·exact hBf b U
    ·exact x8.fr b (by simp[U])
    ·cases hh:h b with
     | none=>rfl
     | some o=>have:=R2 b U;rw[x8.le b o hh]at this;cases this
def Mon (x y:Sx):Prop:=x.st=true->y.st=true
theorem Gg (x:Sx):Mon x (aY x).2:=λh=>by unfold aY;split;rfl;exact h
theorem mJ (x:Sx):Mon x (aC x).2:=λh=>by unfold aC;split;rfl;exact Gg x h
theorem m6 (x:Sx):Mon x (aE x).2:=λh=>by unfold aE;split;exact Gg x h;rfl
theorem qE (x:Sx) (v:Vl):Mon x (dg x v):=λh=>by unfold dg;split;rfl;exact h
theorem rK (x:Sx) (k:Int):Mon x (cz x k):=λh=>by unfold cz;split;exact h;exact h
theorem Ai (u:aU) (x:Sx) (n k:Int):Mon x (bB u x n k):=λh=>by
 unfold bB;rw[if_pos (.inl h)];exact h
theorem Ke (x:Sx) (o:Ob):Mon x (jq x o):=λh=>by unfold jq;rw[if_pos (.inl h)];exact h
theorem qF {x:Sx} (h:x.f.stack=[]):(aY x).2.st=true:=by rw[uz h]
theorem kz {x:Sx} (h:x.f.stack=[]):(aC x).2.st=true:=by
 unfold aC;split;rfl;exact qF h
theorem fZ {x:Sx} {l:List Vl} {v:Vl} (h:x.f.stack=l++[v]) (hv:v.ref=true):(aC x).2.st=true:=by
 unfold aC;rw[fJ h];simp[hv]
theorem iz {x:Sx} {l:List Vl} {v:Vl} (h:x.f.stack=l++[v]) (hv:v.ref=false):aC x=(v.n,{x with f:={x.f with stack:=l} }):=by
 unfold aC;rw[fJ h];simp[hv]
theorem m7 {x:Sx} (h:x.f.stack=[]):(aE x).2.st=true:=by
 unfold aE;split;exact qF h;rfl
theorem m8 {x:Sx} {l:List Vl} {v:Vl} (h:x.f.stack=l++[v]) (hv:v.ref=false):(aE x).2.st=true:=by
 unfold aE;rw[fJ h];simp[hv]
theorem qG {x:Sx} {l:List Vl} {v:Vl} (h:x.f.stack=l++[v]) (hv:v.ref=true):aE x=(v.n,{x with f:={x.f with stack:=l} }):=by
 unfold aE;rw[fJ h];simp[hv]
def Rl (r:Except Int bZ) (s:bZ × Bool × Int):Prop:=match r with
 | .ok M'=>s=(M',false,0)
 | .error k=>if k=0 then s.2.1=true else s.2.1=false/\s.2.2=k
theorem Rl.stuck {s:bZ × Bool × Int} (h:s.2.1=true):Rl (.error 0) s:=by simp[Rl,h]
theorem Rl.Kf {s:bZ × Bool × Int} {k:Int} (hk:k≠0) (h1:s.2.1=false) (h2:s.2.2=k):Rl (.error k) s:=by simp[Rl,hk,h1,h2]
theorem Rl.ok {s:bZ × Bool × Int} {M':bZ} (h:s=(M',false,0)):Rl (.ok M') s:=h
theorem Dn {u:aU} {x:dX} {cA:List Vl} (h:cM u x=some []):dB u x cA=some ([],cA):=by simp[dB,h,iU]
theorem mK {u:aU} {x:dX} {w:Int} (h:cM u x=some [w]):dB u x []=none:=by simp[dB,h]
theorem qH {u:aU} {x:dX} {w:Int} {l:List Vl} {v:Vl} (h:cM u x=some [w]):dB u x (l++[v])=if iU [w] [v]=true then some ([v],l)else none:=by simp[dB,h]
theorem qI {u:aU} {x:dX} {w1 w2:Int} {cA:List Vl} (h:cM u x=some [w1,w2]) (hl:cA.length < 2):dB u x cA=none:=by
 simp[dB,h];omega
theorem Gh {u:aU} {x:dX} {w1 w2:Int} {l:List Vl} {a b:Vl} (h:cM u x=some [w1,w2]):dB u x (l++[a,b])=if iU [w1,w2] [a,b]=true then some ([a,b],l)else none:=by
 simp[dB,h];intro hx;omega
theorem E9 {u:aU} {x:dX} {w1 w2 w3:Int} {cA:List Vl} (h:cM u x=some [w1,w2,w3]) (hl:cA.length < 3):dB u x cA=none:=by
 simp[dB,h];omega
theorem WS {u:aU} {x:dX} {w1 w2 w3:Int} {l:List Vl} {a b c:Vl} (h:cM u x=some [w1,w2,w3]):dB u x (l++[a,b,c])=if iU [w1,w2,w3] [a,b,c]=true then some ([a,b,c],l)else none:=by
 simp[dB,h];intro hx;omega
theorem iE (s:List Vl):s=[]\/∃ l v,s=l++[v]:=by
 rcases List.eq_nil_or_concat s with h|⟨l,v,h⟩
 ·exact .inl h
 ·exact .inr ⟨l,v,by simpa using h⟩
def aR (M:bZ) (fs:List bU) (f:bU):Sx:=⟨M.objs,fs,f,M.said,M.steps,M.fin,M.out,false,0⟩
def rZ (M:bZ) (fs:List bU) (f:bU) (r:RV) (a:Int):Except Int bZ:=match r with
 | .error e=>.error e
 | .ok (objs,g,said,p9)=>.ok {M with objs:=objs,said:=said,ag:=fs++[{g with pc:=if p9 then a else f.pc+1}]}
def qJ (u:aU) (x:Sx) (i:dX):bZ × Bool × Int:=(fB (gZ u (fh x i) i)).res
theorem lC {M:bZ} {fs:List bU} {f:bU} {x:Sx} {v:Vl} {a:Int} {cA:List Vl} (hx:x=aR M fs {f with stack:=cA}):Rl (rZ M fs f (eV M.objs {f with stack:=cA} M.said v) a) (fB (dg x v)).res:=by
 subst hx;by_cases h:cA.length < 4
 ·rw[nW h,qD h];exact Rl.ok rfl
 ·rw[lK (by show 4<=cA.length;omega),nX (by show 4<=cA.length;omega)];exact Rl.stuck rfl
theorem Kg {x:Sx} {k a b:Int} (h:12<=k/\k<=19):fh x ⟨k,a,b⟩=x:=by
 unfold fh;simp only;repeat rw[if_neg (by omega)]
theorem Nb {u:aU} {x:Sx} {k a b:Int} (h:k < 12\/19 < k):gZ u x ⟨k,a,b⟩=x:=by
 unfold gZ;simp only;repeat rw[if_neg (by omega)]
theorem Kh (u:aU) (M:bZ) (fs:List bU) (f:bU) (k a b:Int) (hk:k=1\/k=2\/k=3\/k=4\/k=5\/k=6\/k=7\/k=24) :
  Rl (match dB u ⟨k,a,b⟩ f.stack with
   | none=>.error 0
   | some (aS,rest)=>rZ M fs f (gK u ⟨k,a,b⟩ aS M.objs {f with stack:=rest} M.said) a) (qJ u (aR M fs f) ⟨k,a,b⟩):=by
 have BZ:∀ x:Sx,gZ u x ⟨k,a,b⟩=x:=λx=>Nb (by omega);unfold qJ;rw[BZ];obtain⟨ah,pc,locals,cA⟩:=f;simp only;rcases hk with rfl|rfl|rfl|rfl|rfl|rfl|rfl|rfl
 ·rw[Dn rfl];exact lC (f:=⟨ah,pc,locals,cA⟩) rfl
 ·rw[Dn rfl];exact lC (f:=⟨ah,pc,locals,cA⟩) rfl
 ·rw[Dn rfl];exact lC (f:=⟨ah,pc,locals,cA⟩) rfl
 ·rcases iE cA with rfl|⟨l,v,rfl⟩
  ·rw[mK rfl];exact Rl.stuck (qF (x:=aR M fs ⟨ah,pc,locals,[]⟩) rfl)
  ·rw[qH rfl];have hp:=fJ (x:=aR M fs ⟨ah,pc,locals,l++[v]⟩) rfl;have e:fh (aR M fs ⟨ah,pc,locals,l++[v]⟩) ⟨4,a,b⟩=aR M fs ⟨ah,pc,locals.set a.toNat v,l⟩:=by
    show({ (aY _).2 with f:=_}:Sx)=_;rw[hp];rfl
   rw[e];exact Rl.ok rfl
 ·rcases iE cA with rfl|⟨l,v,rfl⟩
  ·rw[mK rfl];exact Rl.stuck (qF (x:=aR M fs ⟨ah,pc,locals,[]⟩) rfl)
  ·rw[qH rfl];have hp:=fJ (x:=aR M fs ⟨ah,pc,locals,l++[v]⟩) rfl;have e:fh (aR M fs ⟨ah,pc,locals,l++[v]⟩) ⟨5,a,b⟩=aR M fs ⟨ah,pc,locals,l⟩:=by
    show(aY _).2=_;rw[hp];rfl
   rw[e];exact Rl.ok rfl
 ·rcases iE cA with rfl|⟨l,v,rfl⟩
  ·rw[mK rfl];exact Rl.stuck (qE _ (aY (aR M fs ⟨ah,pc,locals,[]⟩)).1 (qE _ (aY (aR M fs ⟨ah,pc,locals,[]⟩)).1 (qF (x:=aR M fs ⟨ah,pc,locals,[]⟩) rfl)))
  ·rw[qH rfl];have hp:=fJ (x:=aR M fs ⟨ah,pc,locals,l++[v]⟩) rfl;have e:fh (aR M fs ⟨ah,pc,locals,l++[v]⟩) ⟨6,a,b⟩=dg (dg (aR M fs ⟨ah,pc,locals,l⟩) v) v:=by
    show dg (dg (aY _).2 (aY _).1) (aY _).1=_;rw[hp];rfl
   rw[e];show Rl (rZ M fs _ (match di M.objs ⟨ah,pc,locals,l⟩ v with
    | .ok (_,g)=>eV M.objs g M.said v
    | .error e=>.error e) a) _
   by_cases h:l.length < 4
   ·rw[qD (x:=aR M fs ⟨ah,pc,locals,l⟩) h];have Wd:di M.objs ⟨ah,pc,locals,l⟩ v=.ok (M.objs,⟨ah,pc,locals,l++[v]⟩):=if_pos h;rw[Wd];exact lC (f:=⟨ah,pc,locals,l++[v]⟩) rfl
   ·have Wd:di M.objs ⟨ah,pc,locals,l⟩ v=.error 0:=if_neg h;rw[Wd];refine Rl.stuck (qE _ _ ?_);rw[nX (by show 4<=l.length;omega)]
 ·have e:fh (aR M fs ⟨ah,pc,locals,cA⟩) ⟨7,a,b⟩=JZ (aR M fs ⟨ah,pc,locals,cA⟩) a:=rfl;rw[e];have bad:∀ x:Sx,(aC (aC x).2).2.st=true->(JZ x a).st=true:=λx h=>by
   unfold JZ;simp only;split
   ·exact qE _ _ h
   ·exact rK _ _ h
  rcases iE cA with rfl|⟨l1,v1,rfl⟩
  ·rw[qI rfl (by simp)];exact Rl.stuck (bad _ (mJ _ (kz (x:=aR M fs ⟨ah,pc,locals,[]⟩) rfl)))
  ·rcases iE l1 with rfl|⟨l,v0,rfl⟩
   ·rw[qI rfl (by simp)];refine Rl.stuck (bad _ ?_);cases hv:v1.ref with
    | true=>exact mJ _ (fZ (x:=aR M fs ⟨ah,pc,locals,[]++[v1]⟩) rfl hv)
    | false=>rw[iz (x:=aR M fs ⟨ah,pc,locals,[]++[v1]⟩) rfl hv];exact kz rfl
   ·rw[List.append_assoc];have Ki:l++([v0]++[v1])=l++[v0,v1]:=rfl;rw[Ki,Gh rfl];have dZ:(aR M fs ⟨ah,pc,locals,l++[v0,v1]⟩).f.stack=(l++[v0])++[v1]:=by simp[aR]
    cases hv:v1.ref with
    | true =>
     rw[if_neg (by simp[iU,hv])];exact Rl.stuck (bad _ (mJ _ (fZ dZ hv)))
    | false =>
     cases hw:v0.ref with
     | true =>
      rw[if_neg (by simp[iU,hw])];refine Rl.stuck (bad _ ?_);rw[iz dZ hv];exact fZ (l:=l) (v:=v0) rfl hw
     | false =>
      rw[if_pos (by simp[iU,hv,hw])];have e1:=iz dZ hv;have e2:aC (aC (aR M fs ⟨ah,pc,locals,l++[v0,v1]⟩)).2=(v0.n,aR M fs ⟨ah,pc,locals,l⟩):=by
       rw[e1];exact iz (l:=l) (v:=v0) rfl hw
      have e3:JZ (aR M fs ⟨ah,pc,locals,l++[v0,v1]⟩) a=if (gS a v0.n v1.n).2=true then dg (aR M fs ⟨ah,pc,locals,l⟩) ⟨false,(gS a v0.n v1.n).1⟩else cz (aR M fs ⟨ah,pc,locals,l⟩) 1:=by
       unfold JZ;simp only[e2];rw[e1]
      rw[e3];show Rl (rZ M fs _ (if (gS a v0.n v1.n).2 then eV M.objs ⟨ah,pc,locals,l⟩ M.said ⟨false,(gS a v0.n v1.n).1⟩else .error 1) a) _;by_cases hd:(gS a v0.n v1.n).2=true
      ·rw[if_pos hd,if_pos hd];exact lC (f:=⟨ah,pc,locals,l++[v0,v1]⟩) rfl
      ·rw[if_neg hd,if_neg hd];exact Rl.Kf (by decide) rfl rfl
 ·have e:fh (aR M fs ⟨ah,pc,locals,cA⟩) ⟨24,a,b⟩=if (aC (aR M fs ⟨ah,pc,locals,cA⟩)).2.st=false then { (aC (aR M fs ⟨ah,pc,locals,cA⟩)).2 with said:=(aC (aR M fs ⟨ah,pc,locals,cA⟩)).2.said++[(aC (aR M fs ⟨ah,pc,locals,cA⟩)).1]}else (aC (aR M fs ⟨ah,pc,locals,cA⟩)).2:=rfl
  rw[e];rcases iE cA with rfl|⟨l,v,rfl⟩
  ·have h:=kz (x:=aR M fs ⟨ah,pc,locals,[]⟩) rfl;rw[mK rfl,if_neg (by rw[h];simp)];exact Rl.stuck h
  ·rw[qH rfl];cases hv:v.ref with
   | true =>
    have h:=fZ (x:=aR M fs ⟨ah,pc,locals,l++[v]⟩) rfl hv;rw[if_neg (by simp[iU,hv]),if_neg (by rw[h];simp)];exact Rl.stuck h
   | false =>
    rw[if_pos (by simp[iU,hv]),iz (x:=aR M fs ⟨ah,pc,locals,l++[v]⟩) rfl hv];exact Rl.ok rfl
def uC (r:xe) (said:List Int):RV:=match r with
 | .ok (o,g)=>.ok (o,g,said,false)
 | .error e=>.error e
theorem Dp {u:aU} {k a b:Int} {aS:List Vl} {objs:List Ob} {f:bU} {said:List Int} (h:12<=k/\k<=19):gK u ⟨k,a,b⟩ aS objs f said=uC (bH u ⟨k,a,b⟩ aS objs f) said:=by
 unfold gK;simp only;repeat rw[if_neg (by omega)]
 rfl
theorem Kj {M:bZ} {fs:List bU} {f:bU} {x:Sx} {o:Ob} {a:Int} {cA:List Vl} (hx:x=aR M fs {f with stack:=cA}) :
  Rl (rZ M fs f (uC (di (M.objs++[o]) {f with stack:=cA} ⟨true,M.objs.length+1⟩) M.said) a) (fB (jq x o)).res:=by
 subst hx;have hm:jq (aR M fs {f with stack:=cA}) o=dg {aR M fs {f with stack:=cA}with objs:=M.objs++[o]} ⟨true,M.objs.length+1⟩:=by
  unfold jq;rw[if_neg (by simp[Sx.bad,aR])];rfl
 rw[hm];by_cases h:cA.length < 4
 ·rw[qD h];have:di (M.objs++[o]) {f with stack:=cA} ⟨true,M.objs.length+1⟩=.ok (M.objs++[o],{f with stack:=cA++[⟨true,M.objs.length+1⟩]}):=if_pos h;rw[this];exact Rl.ok rfl
 ·rw[nX (by show 4<=cA.length;omega)];have:di (M.objs++[o]) {f with stack:=cA} ⟨true,M.objs.length+1⟩=.error 0:=if_neg h;rw[this];exact Rl.stuck rfl
theorem Kk {x:Sx} {o:Ob} (h:x.bad):jq x o=x:=if_pos h
theorem yC {u:aU} {x:Sx} {k:Int} (U:¬x.bad):bB u x 0 k=cz x 2:=by unfold bB;rw[if_neg U,if_pos rfl]
theorem yD {u:aU} {x:Sx} {n k:Int} (U:¬x.bad) (hn:n≠0) (hc:fq u (aF x.objs n).cls k=true):bB u x n k = {x with st:=true}:=by unfold bB;rw[if_neg U,if_neg hn,if_pos hc]
theorem vO {u:aU} {x:Sx} {n k:Int} (U:¬x.bad) (hn:n≠0) (hc:fq u (aF x.objs n).cls k=false):bB u x n k=x:=by unfold bB;rw[if_neg U,if_neg hn,if_neg (by rw[hc];simp)]
def Aj (u:aU) (x:Sx) (n w k:Int) (set:Bool) (v:Vl):Sx :=
 if (bB u x n (-1-k)).bad then bB u x n (-1-k)else if ¬(0<=w/\w < (aF (bB u x n (-1-k)).objs n).bE.length)then cz (bB u x n (-1-k)) 3
 else if set=true then Ho (bB u x n (-1-k)) n w v else dg (bB u x n (-1-k)) ((aF (bB u x n (-1-k)).objs n).bE.getD w.toNat cJ)
theorem jM {u:aU} {x:Sx} {n w k:Int} {set:Bool} {v:Vl} (h:x.st=true):(Aj u x n w k set v).st=true:=by
 have ht:=Ai u x n (-1-k) h;unfold Aj;rw[if_pos (.inl ht)];exact ht
theorem QW (M:bZ) (fs:List bU) (f:bU):¬(aR M fs f).bad:=by simp[Sx.bad,aR]
theorem Gi {u:aU} {M:bZ} {fs:List bU} {f:bU} {x:Sx} {k w a:Int} {v0 v:Vl} {cA:List Vl} {set:Bool} (hx:x=aR M fs {f with stack:=cA}) (hk:k=0\/k=1) (hn:0<=v0.n) :
  Rl (rZ M fs f (uC (match qB M.objs v0 k w with
   | .error e=>.error e
   | .ok o=>if set=true then .ok (iQ M.objs v0.n (putAt o.bE w v),{f with stack:=cA})else di M.objs {f with stack:=cA} (o.bE.getD w.toNat cJ)) M.said) a) (fB (Aj u x v0.n w k set v)).res:=by
 subst hx;have U:=QW M fs {f with stack:=cA};unfold Aj;by_cases h0:v0.n=0
 ·rw[yf h0,h0,yC U];have:(cz (aR M fs {f with stack:=cA}) 2).bad:=.inr (by show(0:Int) < 2;decide);rw[if_pos this];exact Rl.Kf (by decide) rfl rfl
 ·have h1:0 < v0.n:=by omega
  have dh:fq u (aF M.objs v0.n).cls (-1-k) = !decide ((aF M.objs v0.n).cls=o7 k):=by
   unfold fq o7;rcases hk with rfl|rfl<;>simp
  by_cases hc:(aF M.objs v0.n).cls=o7 k
  ·rw[vO U h0 (by show fq u (aF M.objs v0.n).cls (-1-k)=false;rw[dh];simp[hc]),if_neg U];by_cases hr:0<=w/\w < (aF M.objs v0.n).bE.length
   ·have IN:0<=w/\w < (aF (aR M fs {f with stack:=cA}).objs v0.n).bE.length:=hr;rw[AY h1 hc hr,if_neg (λhx=>hx IN)];cases set with
    | true=>exact Rl.ok rfl
    | false =>
     have e:uC (di M.objs {f with stack:=cA} ((aF M.objs v0.n).bE.getD w.toNat cJ)) M.said=eV M.objs {f with stack:=cA} M.said ((aF M.objs v0.n).bE.getD w.toNat cJ):=rfl;simp only[Bool.false_eq_true,if_false];rw[e];exact lC rfl
   ·have IN:¬(0<=w/\w < (aF (aR M fs {f with stack:=cA}).objs v0.n).bE.length):=hr;rw[sS h1 hc hr,if_pos IN];exact Rl.Kf (by decide) rfl rfl
  ·rw[ye h1 hc,yD U h0 (by show fq u (aF M.objs v0.n).cls (-1-k)=true;rw[dh];simp[hc]),if_pos (.inl rfl)];exact Rl.stuck rfl
def vP (u:aU) (x:Sx) (n k i:Int) (set:Bool) (v:Vl):Sx :=
 if (bB u x n k).bad then bB u x n k else if set=true then Ho (bB u x n k) n i v else dg (bB u x n k) ((aF (bB u x n k).objs n).bE.getD i.toNat cJ)
theorem od {u:aU} {x:Sx} {n i k:Int} {set:Bool} {v:Vl} (h:x.st=true):(vP u x n k i set v).st=true:=by
 have ht:=Ai u x n k h;unfold vP;rw[if_pos (.inl ht)];exact ht
theorem Dq {u:aU} {M:bZ} {fs:List bU} {f:bU} {x:Sx} {k i a:Int} {v0 v:Vl} {cA:List Vl} {set:Bool} (hx:x=aR M fs {f with stack:=cA}) (hk:0<=k) (hn:0<=v0.n) :
  Rl (rZ M fs f (uC (match ef M.objs v0.n (up u.J (aF M.objs v0.n).cls k)with
   | .error e=>.error e
   | .ok o=>if set=true then .ok (iQ M.objs v0.n (putAt o.bE i v),{f with stack:=cA})else di M.objs {f with stack:=cA} (o.bE.getD i.toNat cJ)) M.said) a) (fB (vP u x v0.n k i set v)).res:=by
 subst hx;have U:=QW M fs {f with stack:=cA};unfold vP;by_cases h0:v0.n=0
 ·rw[fT h0,h0,yC U];have:(cz (aR M fs {f with stack:=cA}) 2).bad:=.inr (by show(0:Int) < 2;decide);rw[if_pos this];exact Rl.Kf (by decide) rfl rfl
 ·have h1:0 < v0.n:=by omega
  have dh:fq u (aF M.objs v0.n).cls k = !up u.J (aF M.objs v0.n).cls k:=by
   unfold fq;cases hu:up u.J (aF M.objs v0.n).cls k with
   | true =>
    have:=kI hu;simp[show ¬k < 0 by omega,this]
   | false=>simp[hk]
  cases hu:up u.J (aF M.objs v0.n).cls k with
  | true =>
   rw[vO U h0 (by show fq u (aF M.objs v0.n).cls k=false;rw[dh,hu];rfl),if_neg U,gh h1 rfl];cases set with
   | true=>exact Rl.ok rfl
   | false =>
    have e:uC (di M.objs {f with stack:=cA} ((aF M.objs v0.n).bE.getD i.toNat cJ)) M.said=eV M.objs {f with stack:=cA} M.said ((aF M.objs v0.n).bE.getD i.toNat cJ):=rfl;simp only[Bool.false_eq_true,if_false];rw[e];exact lC rfl
  | false =>
   rw[yD U h0 (by show fq u (aF M.objs v0.n).cls k=true;rw[dh,hu];rfl),if_pos (.inl rfl),fS h1 rfl];exact Rl.stuck rfl
theorem Hw (u:aU) (M:bZ) (fs:List bU) (f:bU) (k a b:Int) (hk:12<=k/\k<=19) (hv:∀ v∈f.stack,tD M.objs.length v) (ha:k=13\/k=15\/k=16->a=0\/a=1) (hc:k=12\/k=17\/k=18\/k=19->0<=a) :
  Rl (match dB u ⟨k,a,b⟩ f.stack with
   | none=>.error 0
   | some (aS,rest)=>rZ M fs f (gK u ⟨k,a,b⟩ aS M.objs {f with stack:=rest} M.said) a) (qJ u (aR M fs f) ⟨k,a,b⟩):=by
 simp only[Dp hk];unfold qJ;rw[Kg hk];obtain⟨ah,pc,locals,cA⟩:=f;simp only at hv ⊢;have Ef:k=12\/k=13\/k=14\/k=15\/k=16\/k=17\/k=18\/k=19:=by omega
 rcases Ef with rfl|rfl|rfl|rfl|rfl|rfl|rfl|rfl
 ·rw[Dn rfl];exact Kj (f:=⟨ah,pc,locals,cA⟩) rfl
 ·
  have hl:∀ x:Sx,gZ u x ⟨13,a,b⟩=nB x a:=λx=>rfl;rw[hl];have bad:∀ x:Sx,(aC x).2.st=true->(nB x a).st=true:=λx h=>by
   unfold nB;refine Ke _ _ ?_;split
   ·exact h
   ·exact rK _ _ h
  rcases iE cA with rfl|⟨l,v,rfl⟩
  ·rw[mK rfl];exact Rl.stuck (bad _ (kz (x:=aR M fs ⟨ah,pc,locals,[]⟩) rfl))
  ·rw[qH rfl];cases hr:v.ref with
   | true =>
    rw[if_neg (by simp[iU,hr])];exact Rl.stuck (bad _ (fZ (x:=aR M fs ⟨ah,pc,locals,l++[v]⟩) rfl hr))
   | false =>
    rw[if_pos (by simp[iU,hr])];have e1:aC (aR M fs ⟨ah,pc,locals,l++[v]⟩)=(v.n,aR M fs ⟨ah,pc,locals,l⟩):=iz (x:=aR M fs ⟨ah,pc,locals,l++[v]⟩) rfl hr;have e2:nB (aR M fs ⟨ah,pc,locals,l++[v]⟩) a=jq (if 0<=v.n/\v.n<=6 then aR M fs ⟨ah,pc,locals,l⟩else cz (aR M fs ⟨ah,pc,locals,l⟩) 4) (mD a v.n):=by
     unfold nB;rw[e1]
    rw[e2];have e3:bH u ⟨13,a,b⟩ [v] M.objs ⟨ah,pc,locals,l⟩=if 0<=v.n/\v.n<=6 then uf (o7 a) (List.replicate v.n.toNat (if a=0 then 1 else 8)) M.objs ⟨ah,pc,locals,l⟩else .error 4:=rfl
    show Rl (rZ M fs _ (uC (bH u ⟨13,a,b⟩ [v] M.objs ⟨ah,pc,locals,l⟩) M.said) a) _;rw[e3];by_cases h6:0<=v.n/\v.n<=6
    ·rw[if_pos h6,if_pos h6];have e4:(⟨o7 a,(List.replicate v.n.toNat (if a=0 then 1 else 8)).map nothing⟩:Ob)=mD a v.n:=by
      unfold mD o7;have hm:min v.n 6=v.n:=by omega
      rw[hm];rcases ha (by simp)with rfl|rfl
      ·simp[nothing]
      ·simp[nothing]
     unfold uf;rw[e4];exact Kj (f:=⟨ah,pc,locals,l++[v]⟩) rfl
    ·rw[if_neg h6,if_neg h6,Kk (.inr (by show(0:Int) < 4;decide))];exact Rl.Kf (by decide) rfl rfl
 ·
  have hl:∀ x:Sx,gZ u x ⟨14,a,b⟩=sy x:=λx=>rfl;rw[hl];have bad:∀ x:Sx,(aE x).2.st=true->(sy x).st=true:=λx h=>by
   unfold sy;simp only;split
   ·rfl
   ·split
    ·exact rK _ _ h
    ·exact qE _ _ h
  rcases iE cA with rfl|⟨l,v,rfl⟩
  ·rw[mK rfl];exact Rl.stuck (bad _ (m7 (x:=aR M fs ⟨ah,pc,locals,[]⟩) rfl))
  ·rw[qH rfl];have E5:=hv v (by simp);cases hr:v.ref with
   | false =>
    rw[if_neg (by simp[iU,hr])];exact Rl.stuck (bad _ (m8 (x:=aR M fs ⟨ah,pc,locals,l++[v]⟩) rfl hr))
   | true =>
    rw[if_pos (by simp[iU,hr])];have hn:=E5.1 hr;have e1:aE (aR M fs ⟨ah,pc,locals,l++[v]⟩)=(v.n,aR M fs ⟨ah,pc,locals,l⟩):=qG (x:=aR M fs ⟨ah,pc,locals,l++[v]⟩) rfl hr;have e2:sy (aR M fs ⟨ah,pc,locals,l++[v]⟩)=if 0 < v.n/\(aR M fs ⟨ah,pc,locals,l⟩).st=false/\0<=(aF M.objs v.n).cls then {aR M fs ⟨ah,pc,locals,l⟩with st:=true}else if v.n=0 then cz (aR M fs ⟨ah,pc,locals,l⟩) 2 else dg (aR M fs ⟨ah,pc,locals,l⟩) ⟨false,(aF M.objs v.n).bE.length⟩:=by
     unfold sy;simp only[e1];rfl
    rw[e2];show Rl (rZ M fs _ (uC (match ef M.objs v.n (decide ((aF M.objs v.n).cls < 0))with
     | .error e=>.error e
     | .ok o=>di M.objs ⟨ah,pc,locals,l⟩ ⟨false,o.bE.length⟩) M.said) a) _
    by_cases h0:v.n=0
    ·rw[fT h0,if_neg (by omega),if_pos h0];exact Rl.Kf (by decide) rfl rfl
    ·have h1:0 < v.n:=by omega
     by_cases lq:(aF M.objs v.n).cls < 0
     ·rw[gh h1 (by simp[lq]),if_neg (by omega),if_neg h0];exact lC (f:=⟨ah,pc,locals,l++[v]⟩) rfl
     ·rw[fS h1 (by simp[lq]),if_pos ⟨h1,rfl,by omega⟩];exact Rl.stuck rfl
 ·
  have hl:∀ x:Sx,gZ u x ⟨15,a,b⟩=Aj u (aE (aC x).2).2 (aE (aC x).2).1 (aC x).1 a false cJ:=λx=>rfl;rw[hl];rcases iE cA with rfl|⟨l1,v1,rfl⟩
  ·rw[qI rfl (by simp)];exact Rl.stuck (jM (m6 _ (kz (x:=aR M fs ⟨ah,pc,locals,[]⟩) rfl)))
  ·rcases iE l1 with rfl|⟨l,v0,rfl⟩
   ·rw[qI rfl (by simp)];refine Rl.stuck (jM ?_);cases hr:v1.ref with
    | true=>exact m6 _ (fZ (x:=aR M fs ⟨ah,pc,locals,[]++[v1]⟩) rfl hr)
    | false=>rw[iz (x:=aR M fs ⟨ah,pc,locals,[]++[v1]⟩) rfl hr];exact m7 rfl
   ·rw[List.append_assoc];have Ki:l++([v0]++[v1])=l++[v0,v1]:=rfl;rw[Ki,Gh rfl];have dZ:(aR M fs ⟨ah,pc,locals,l++[v0,v1]⟩).f.stack=(l++[v0])++[v1]:=by simp[aR]
    have E5:=hv v0 (by simp);cases s9:v1.ref with
    | true =>
     rw[if_neg (by simp[iU,s9])];exact Rl.stuck (jM (m6 _ (fZ dZ s9)))
    | false =>
     have e1:=iz dZ s9;cases gD:v0.ref with
     | false =>
      rw[if_neg (by simp[iU,gD])];refine Rl.stuck (jM ?_);rw[e1];exact m8 (l:=l) (v:=v0) rfl gD
     | true =>
      rw[if_pos (by simp[iU,gD,s9])];have e2:aE (aC (aR M fs ⟨ah,pc,locals,l++[v0,v1]⟩)).2=(v0.n,aR M fs ⟨ah,pc,locals,l⟩):=by
       rw[e1];exact qG (l:=l) (v:=v0) rfl gD
      rw[e2,e1];exact Gi (f:=⟨ah,pc,locals,l++[v0,v1]⟩) (set:=false) (v:=cJ) rfl (ha (by simp)) (E5.1 gD).1
 ·
  have hl:∀ x:Sx,gZ u x ⟨16,a,b⟩=Aj u (aE (aC (aY x).2).2).2 (aE (aC (aY x).2).2).1 (aC (aY x).2).1 a true (aY x).1:=λx=>rfl;rw[hl];rcases iE cA with rfl|⟨l2,v2,rfl⟩
  ·rw[E9 rfl (by simp)];exact Rl.stuck (jM (m6 _ (mJ _ (qF (x:=aR M fs ⟨ah,pc,locals,[]⟩) rfl))))
  ·have e0:aY (aR M fs ⟨ah,pc,locals,l2++[v2]⟩)=(v2,aR M fs ⟨ah,pc,locals,l2⟩):=fJ (x:=aR M fs ⟨ah,pc,locals,l2++[v2]⟩) rfl;rw[e0];rcases iE l2 with rfl|⟨l1,v1,rfl⟩
   ·rw[E9 rfl (by simp)];exact Rl.stuck (jM (m6 _ (kz (x:=aR M fs ⟨ah,pc,locals,[]⟩) rfl)))
   ·rcases iE l1 with rfl|⟨l,v0,rfl⟩
    ·rw[E9 rfl (by simp)];refine Rl.stuck (jM ?_);cases hr:v1.ref with
     | true=>exact m6 _ (fZ (x:=aR M fs ⟨ah,pc,locals,[]++[v1]⟩) rfl hr)
     | false=>rw[iz (x:=aR M fs ⟨ah,pc,locals,[]++[v1]⟩) rfl hr];exact m7 rfl
    ·have Ki:l++[v0]++[v1]++[v2]=l++[v0,v1,v2]:=by simp
     have E5:=hv v0 (by simp);rw[Ki,WS rfl];have dZ:(aR M fs ⟨ah,pc,locals,l++[v0]++[v1]⟩).f.stack=(l++[v0])++[v1]:=rfl;cases s9:v1.ref with
     | true =>
      rw[if_neg (by simp[iU,s9])];exact Rl.stuck (jM (m6 _ (fZ dZ s9)))
     | false =>
      have e1:=iz dZ s9;cases gD:v0.ref with
      | false =>
       rw[if_neg (by simp[iU,gD])];refine Rl.stuck (jM ?_);rw[e1];exact m8 (l:=l) (v:=v0) rfl gD
      | true =>
       rw[if_pos (by simp[iU,gD,s9])];have e2:aE (aC (aR M fs ⟨ah,pc,locals,l++[v0]++[v1]⟩)).2=(v0.n,aR M fs ⟨ah,pc,locals,l⟩):=by
        rw[e1];exact qG (l:=l) (v:=v0) rfl gD
       rw[e2,e1];exact Gi (f:=⟨ah,pc,locals,l++[v0,v1,v2]⟩) (set:=true) (v:=v2) rfl (ha (by simp)) (E5.1 gD).1
 ·
  have hl:∀ x:Sx,gZ u x ⟨17,a,b⟩=vP u (aE x).2 (aE x).1 a b false cJ:=λx=>rfl;rw[hl];rcases iE cA with rfl|⟨l,v,rfl⟩
  ·rw[mK rfl];exact Rl.stuck (od (m7 (x:=aR M fs ⟨ah,pc,locals,[]⟩) rfl))
  ·rw[qH rfl];have E5:=hv v (by simp);cases hr:v.ref with
   | false =>
    rw[if_neg (by simp[iU,hr])];exact Rl.stuck (od (m8 (x:=aR M fs ⟨ah,pc,locals,l++[v]⟩) rfl hr))
   | true =>
    rw[if_pos (by simp[iU,hr]),qG (x:=aR M fs ⟨ah,pc,locals,l++[v]⟩) rfl hr];exact Dq (f:=⟨ah,pc,locals,l++[v]⟩) (set:=false) (v:=cJ) rfl (hc (by simp)) (E5.1 hr).1
 ·
  have hl:∀ x:Sx,gZ u x ⟨18,a,b⟩=vP u (aE (aY x).2).2 (aE (aY x).2).1 a b true (aY x).1:=λx=>rfl;rw[hl];rcases iE cA with rfl|⟨l1,v1,rfl⟩
  ·rw[qI rfl (by simp)];exact Rl.stuck (od (m6 _ (qF (x:=aR M fs ⟨ah,pc,locals,[]⟩) rfl)))
  ·have e0:aY (aR M fs ⟨ah,pc,locals,l1++[v1]⟩)=(v1,aR M fs ⟨ah,pc,locals,l1⟩):=fJ (x:=aR M fs ⟨ah,pc,locals,l1++[v1]⟩) rfl;rw[e0];rcases iE l1 with rfl|⟨l,v0,rfl⟩
   ·rw[qI rfl (by simp)];exact Rl.stuck (od (m7 (x:=aR M fs ⟨ah,pc,locals,[]⟩) rfl))
   ·have Ki:l++[v0]++[v1]=l++[v0,v1]:=by simp
    have E5:=hv v0 (by simp);rw[Ki,Gh rfl];cases hr:v0.ref with
    | false =>
     rw[if_neg (by simp[iU,hr])];exact Rl.stuck (od (m8 (x:=aR M fs ⟨ah,pc,locals,l++[v0]⟩) rfl hr))
    | true =>
     rw[if_pos (by simp[iU,hr]),qG (x:=aR M fs ⟨ah,pc,locals,l++[v0]⟩) rfl hr];exact Dq (f:=⟨ah,pc,locals,l++[v0,v1]⟩) (set:=true) (v:=v1) rfl (hc (by simp)) (E5.1 hr).1
 ·
  have hl:∀ x:Sx,gZ u x ⟨19,a,b⟩=sA u x a:=λx=>rfl;rw[hl];have bad:∀ x:Sx,(aE x).2.st=true->(sA u x a).st=true:=λx h=>by
   unfold sA;simp only;rw[if_pos h];exact h
  rcases iE cA with rfl|⟨l,v,rfl⟩
  ·rw[mK rfl];exact Rl.stuck (bad _ (m7 (x:=aR M fs ⟨ah,pc,locals,[]⟩) rfl))
  ·rw[qH rfl];cases hr:v.ref with
   | false =>
    rw[if_neg (by simp[iU,hr])];exact Rl.stuck (bad _ (m8 (x:=aR M fs ⟨ah,pc,locals,l++[v]⟩) rfl hr))
   | true =>
    rw[if_pos (by simp[iU,hr])];have e1:aE (aR M fs ⟨ah,pc,locals,l++[v]⟩)=(v.n,aR M fs ⟨ah,pc,locals,l⟩):=qG (x:=aR M fs ⟨ah,pc,locals,l++[v]⟩) rfl hr;have e2:sA u (aR M fs ⟨ah,pc,locals,l++[v]⟩) a=if 0 < v.n/\ju u.J (typeOf (aF M.objs v.n).cls) (8+a)=false then cz (aR M fs ⟨ah,pc,locals,l⟩) 5 else dg (aR M fs ⟨ah,pc,locals,l⟩) ⟨true,v.n⟩:=by
     unfold sA;simp only[e1];rfl
    rw[e2];have e3:(⟨true,v.n⟩:Vl)=v:=by cases v;simp only at hr;rw[hr]
    show Rl (rZ M fs _ (uC (if 0 < v.n/\ju u.J (typeOf (aF M.objs v.n).cls) (8+a)=false then .error 5 else di M.objs ⟨ah,pc,locals,l⟩ v) M.said) a) _;by_cases ht:0 < v.n/\ju u.J (typeOf (aF M.objs v.n).cls) (8+a)=false
    ·rw[if_pos ht,if_pos ht];exact Rl.Kf (by decide) rfl rfl
    ·rw[if_neg ht,if_neg ht,e3];exact lC (f:=⟨ah,pc,locals,l++[v]⟩) rfl
theorem Bz:∀(n:Nat) (l:List Vl),iU (List.replicate n 0) l=true
 | 0,_=>rfl
 | n+1,[]=>rfl
 | n+1,v::l=>by simp[List.replicate_succ,iU,Bz n l]
def uD (x:Sx) (i:dX):bZ × Bool × Int:=if (eI (fB x) i).1=true then ({ (eI (fB x) i).2 with f:={ (eI (fB x) i).2.f with pc:=i.a} }:Sx).res else (eI (fB x) i).2.res
theorem Gj {x:Sx} {i:dX} (h:(eI (fB x) i).2.st=true):(uD x i).2.1=true:=by
 unfold uD;split<;>exact h
theorem Nc (u:aU) (M:bZ) (fs:List bU) (f:bU) (k a b:Int) (hk:8<=k/\k<=11) :
  Rl (match dB u ⟨k,a,b⟩ f.stack with
   | none=>.error 0
   | some (aS,rest)=>rZ M fs f (gK u ⟨k,a,b⟩ aS M.objs {f with stack:=rest} M.said) a) (uD (aR M fs f) ⟨k,a,b⟩):=by
 obtain⟨ah,pc,locals,cA⟩:=f;simp only;have Mq:fB (aR M fs ⟨ah,pc,locals,cA⟩)=aR M fs ⟨ah,pc+1,locals,cA⟩:=rfl;have fin:∀(c:Bool) (l:List Vl),eI (fB (aR M fs ⟨ah,pc,locals,cA⟩)) ⟨k,a,b⟩=(c,aR M fs ⟨ah,pc+1,locals,l⟩)->Rl (rZ M fs ⟨ah,pc,locals,cA⟩ (.ok (M.objs,⟨ah,pc,locals,l⟩,M.said,c)) a) (uD (aR M fs ⟨ah,pc,locals,cA⟩) ⟨k,a,b⟩):=by
  intro c l h;unfold uD;rw[h];cases c with
  | true=>exact Rl.ok rfl
  | false=>exact Rl.ok rfl
 have two:∀(p:Int->Int->Bool),(∀ x:Sx,eI x ⟨k,a,b⟩=(p (aC (aC x).2).1 (aC x).1,(aC (aC x).2).2))->cM u ⟨k,a,b⟩=some [1,1]->(∀ v0 v1 objs f said,gK u ⟨k,a,b⟩ [v0,v1] objs f said=.ok (objs,f,said,p v0.n v1.n)) ->
   Rl (match dB u ⟨k,a,b⟩ cA with
    | none=>.error 0
    | some (aS,rest)=>rZ M fs ⟨ah,pc,locals,cA⟩ (gK u ⟨k,a,b⟩ aS M.objs ⟨ah,pc,locals,rest⟩ M.said) a) (uD (aR M fs ⟨ah,pc,locals,cA⟩) ⟨k,a,b⟩):=by
  intro p hl hs hm;have bad:(aC (aC (aR M fs ⟨ah,pc+1,locals,cA⟩)).2).2.st=true->(uD (aR M fs ⟨ah,pc,locals,cA⟩) ⟨k,a,b⟩).2.1=true:=λh=>Gj (by rw[Mq,hl];exact h);rcases iE cA with rfl|⟨l1,v1,rfl⟩
  ·rw[qI hs (by simp)];exact Rl.stuck (bad (mJ _ (kz rfl)))
  ·rcases iE l1 with rfl|⟨l,v0,rfl⟩
   ·rw[qI hs (by simp)];refine Rl.stuck (bad ?_);cases hr:v1.ref with
    | true=>exact mJ _ (fZ (l:=[]) (v:=v1) rfl hr)
    | false=>rw[iz (x:=aR M fs ⟨ah,pc+1,locals,[]++[v1]⟩) (l:=[]) (v:=v1) rfl hr];exact kz rfl
   ·have Ki:l++[v0]++[v1]=l++[v0,v1]:=by simp
    rw[Ki]at bad fin ⊢;rw[Gh hs];have dZ:(aR M fs ⟨ah,pc+1,locals,l++[v0,v1]⟩).f.stack=(l++[v0])++[v1]:=by simp[aR]
    cases s9:v1.ref with
    | true =>
     rw[if_neg (by simp[iU,s9])];exact Rl.stuck (bad (mJ _ (fZ dZ s9)))
    | false =>
     have e1:=iz dZ s9;cases gD:v0.ref with
     | true =>
      rw[if_neg (by simp[iU,gD])];refine Rl.stuck (bad ?_);rw[e1];exact fZ (l:=l) (v:=v0) rfl gD
     | false =>
      rw[if_pos (by simp[iU,gD,s9])];show Rl (rZ M fs _ (gK u ⟨k,a,b⟩ [v0,v1] M.objs ⟨ah,pc,locals,l⟩ M.said) a) _;rw[hm];refine fin _ l ?_;rw[show fB (aR M fs ⟨ah,pc,locals,l++[v0,v1]⟩)=aR M fs ⟨ah,pc+1,locals,l++[v0,v1]⟩from rfl,hl];have e2:aC (aC (aR M fs ⟨ah,pc+1,locals,l++[v0,v1]⟩)).2=(v0.n,aR M fs ⟨ah,pc+1,locals,l⟩):=by
       rw[e1];exact iz (l:=l) (v:=v0) rfl gD
      rw[e2,e1]
 have Ef:k=8\/k=9\/k=10\/k=11:=by omega
 rcases Ef with rfl|rfl|rfl|rfl
 ·exact two (λx y=>decide (x < y)) (λ_=>rfl) rfl (λ_ _ _ _ _=>rfl)
 ·exact two (λx y=>decide (x=y)) (λ_=>rfl) rfl (λ_ _ _ _ _=>rfl)
 ·have hl:∀ x:Sx,eI x ⟨10,a,b⟩=(decide ((aE x).1=0),(aE x).2):=λ_=>rfl;have bad:(aE (aR M fs ⟨ah,pc+1,locals,cA⟩)).2.st=true->(uD (aR M fs ⟨ah,pc,locals,cA⟩) ⟨10,a,b⟩).2.1=true:=λh=>Gj (by rw[Mq,hl];exact h);rcases iE cA with rfl|⟨l,v,rfl⟩
  ·rw[mK rfl];exact Rl.stuck (bad (m7 rfl))
  ·rw[qH rfl];cases hr:v.ref with
   | false =>
    rw[if_neg (by simp[iU,hr])];exact Rl.stuck (bad (m8 (l:=l) (v:=v) rfl hr))
   | true =>
    rw[if_pos (by simp[iU,hr])];refine fin (decide (v.n=0)) l ?_;rw[Mq,hl,qG (x:=aR M fs ⟨ah,pc+1,locals,l++[v]⟩) (l:=l) (v:=v) rfl hr];rfl
 ·rw[Dn rfl];exact fin true cA rfl
theorem Nf (u:aU) (M:bZ) (fs:List bU) (f:bU) (a b:Int) :
  Rl (match dB u ⟨22,a,b⟩ f.stack with
   | none=>.error 0
   | some (aS,rest)=>jk u ⟨22,a,b⟩ aS fs {M with ag:=fs++[{f with stack:=rest}]}) (wH (aR M fs f)):=by
 obtain⟨ah,pc,locals,cA⟩:=f;simp only;rcases iE cA with rfl|⟨l,v,rfl⟩
 ·rw[mK rfl];unfold wH;have h:=qF (x:=aR M fs ⟨ah,pc,locals,[]⟩) rfl;simp only;rw[if_pos h];exact Rl.stuck h
 ·rw[qH rfl];unfold wH;have e0:aY (aR M fs ⟨ah,pc,locals,l++[v]⟩)=(v,aR M fs ⟨ah,pc,locals,l⟩):=fJ (x:=aR M fs ⟨ah,pc,locals,l++[v]⟩) rfl;rw[e0,if_pos (by simp[iU])];simp only;rw[if_neg (by simp[aR])];show Rl (uj v fs {M with ag:=fs++[⟨ah,pc,locals,l⟩]}) (match fs.getLast? with
   | none=>_
   | some g=>_)
  rcases List.eq_nil_or_concat fs with rfl|⟨gs,g,rfl⟩
  ·exact Rl.ok rfl
  ·rw[List.concat_eq_append,rF];have hl:(gs++[g]).getLast? = some g:=by simp
   have hd:(gs++[g]).dropLast=gs:=by simp
   rw[hl];simp only;by_cases h4:g.stack.length < 4
   ·rw[if_pos h4,qD (x:={aR M (gs++[g]) ⟨ah,pc,locals,l⟩with fs:=(aR M (gs++[g]) ⟨ah,pc,locals,l⟩).fs.dropLast,f:=g}) h4];refine Rl.ok ?_;simp only[aR,Sx.res,Sx.Bm,hd]
   ·rw[if_neg h4,nX (x:={aR M (gs++[g]) ⟨ah,pc,locals,l⟩with fs:=(aR M (gs++[g]) ⟨ah,pc,locals,l⟩).fs.dropLast,f:=g}) (by show 4<=g.stack.length;omega)];exact Rl.stuck rfl
theorem Kl (u:aU) (M:bZ) (fs:List bU) (f:bU) (a b:Int) (hv:∀ v∈f.stack,tD M.objs.length v) :
  Rl (match dB u ⟨23,a,b⟩ f.stack with
   | none=>.error 0
   | some (aS,rest)=>jk u ⟨23,a,b⟩ aS fs {M with ag:=fs++[{f with stack:=rest}]})
   (if (aE (aR M fs f)).1=0 then (cz (aE (aR M fs f)).2 2).res else if (aE (aR M fs f)).2.st=false then mG u (aE (aR M fs f)).1 (aE (aR M fs f)).2.Bm (aE (aR M fs f)).2.st (aE (aR M fs f)).2.ft else (aE (aR M fs f)).2.res):=by
 obtain⟨ah,pc,locals,cA⟩:=f;simp only at hv ⊢;have bad:∀ x:Sx,(aE x).2.st=true->Rl (.error 0) (if (aE x).1=0 then (cz (aE x).2 2).res else if (aE x).2.st=false then mG u (aE x).1 (aE x).2.Bm (aE x).2.st (aE x).2.ft else (aE x).2.res):=by
  intro x h;split
  ·exact Rl.stuck (rK _ _ h)
  ·rw[if_neg (by rw[h];simp)];exact Rl.stuck h
 rcases iE cA with rfl|⟨l,v,rfl⟩
 ·rw[mK rfl];exact bad _ (m7 rfl)
 ·rw[qH rfl];have E5:=hv v (by simp);cases hr:v.ref with
  | false =>
   rw[if_neg (by simp[iU,hr])];exact bad _ (m8 (l:=l) (v:=v) rfl hr)
  | true =>
   rw[if_pos (by simp[iU,hr])];have hn:=E5.1 hr;have e0:aE (aR M fs ⟨ah,pc,locals,l++[v]⟩)=(v.n,aR M fs ⟨ah,pc,locals,l⟩):=qG (x:=aR M fs ⟨ah,pc,locals,l++[v]⟩) rfl hr;rw[e0];show Rl (match ef M.objs v.n (up u.J (aF M.objs v.n).cls 1)with
    | .error e=>.error e
    | .ok _=>.ok (cK u v.n {M with ag:=fs++[⟨ah,pc,locals,l⟩]})) _
   simp only;by_cases h0:v.n=0
   ·rw[fT h0,if_pos h0];exact Rl.Kf (by decide) rfl rfl
   ·have h1:0 < v.n:=by omega
    rw[if_neg h0,if_pos (show(aR M fs ⟨ah,pc,locals,l⟩).st=false from rfl)];unfold mG;cases hu:up u.J (aF M.objs v.n).cls 1 with
    | true =>
     have:=kI hu;rw[gh h1 rfl,if_neg (by
      show ¬((aF M.objs v.n).cls < 0\/up u.J (aF M.objs v.n).cls 1=false);rw[hu];simp;omega)]
     exact Rl.ok rfl
    | false =>
     rw[fS h1 rfl,if_pos (.inr hu)];exact Rl.stuck rfl
theorem Ng (u:aU) (M:bZ) (fs:List bU) (f:bU) (a b:Int) (sF:fs.length+1<=4) :
  Rl (match dB u ⟨20,a,b⟩ f.stack with
   | none=>.error 0
   | some (aS,rest)=>jk u ⟨20,a,b⟩ aS fs {M with ag:=fs++[{f with stack:=rest}]}) (jT u (aR M fs f) ⟨20,a,b⟩):=by
 have hc:cx u ⟨20,a,b⟩=(br u a).args.length:=rfl;have hs:cM u ⟨20,a,b⟩=some (List.replicate (br u a).args.length 0):=rfl;unfold dB;rw[hs];simp only[List.length_replicate];by_cases hl:f.stack.length < (br u a).args.length
 ·rw[if_pos hl];unfold jT;rw[if_pos (.inr (by rw[hc];show(f.stack.length:Int) < _;omega))];exact Rl.stuck rfl
 ·rw[if_neg hl,if_pos (Bz _ _)];have qc:¬(cx u ⟨20,a,b⟩ < 0\/((aR M fs f).f.stack.length:Int) < cx u ⟨20,a,b⟩):=by
   rw[hc];show ¬(((br u a).args.length:Int) < 0\/(f.stack.length:Int) < (br u a).args.length);omega
  rw[Dj qc,hc];show Rl (jI u a _ _) _;unfold jI;by_cases h4:fs.length+1=4
  ·rw[if_pos (by simp;omega),if_pos (show(aR M fs f).fs.length+1=4 from h4)];exact Rl.Kf (by decide) rfl rfl
  ·rw[if_neg (by simp;omega),if_neg (show ¬(aR M fs f).fs.length+1=4 from h4)];exact Rl.ok rfl
theorem Nh (u:aU) (M:bZ) (fs:List bU) (f:bU) (a b:Int) (sF:fs.length+1<=4) (ha:0<=a) (hv:∀ v∈f.stack,tD M.objs.length v) :
  Rl (match dB u ⟨21,a,b⟩ f.stack with
   | none=>.error 0
   | some (aS,rest)=>jk u ⟨21,a,b⟩ aS fs {M with ag:=fs++[{f with stack:=rest}]}) (jT u (aR M fs f) ⟨21,a,b⟩):=by
 have hc:cx u ⟨21,a,b⟩=if 0<=find u a b then ((br u (find u a b)).args.length:Int)+1 else -1:=rfl
 have hs:cM u ⟨21,a,b⟩=if find u a b < 0 then none else some (2::List.replicate (br u (find u a b)).args.length 0):=rfl
 unfold dB;rw[hs];by_cases hf:find u a b < 0
 ·rw[if_pos hf];rw[if_neg (by omega)]at hc;unfold jT;rw[if_pos (.inl (by rw[hc];decide))];exact Rl.stuck rfl
 ·rw[if_neg hf];rw[if_pos (by omega)]at hc;simp only[List.length_cons,List.length_replicate];generalize hn:(br u (find u a b)).args.length=n at hc ⊢;by_cases hl:f.stack.length < n+1
  ·rw[if_pos hl];unfold jT;rw[if_pos (.inr (by rw[hc];show(f.stack.length:Int) < _;omega))];exact Rl.stuck rfl
  ·rw[if_neg hl];have qc:¬(cx u ⟨21,a,b⟩ < 0\/((aR M fs f).f.stack.length:Int) < cx u ⟨21,a,b⟩):=by
    rw[hc];show ¬((n:Int)+1 < 0\/(f.stack.length:Int) < (n:Int)+1);omega
   have hm:(aR M fs f).f.stack.length-(cx u ⟨21,a,b⟩).toNat=f.stack.length-(n+1):=by rw[hc];rfl
   obtain⟨v0,r,hg⟩:∃ v0 r,f.stack.drop (f.stack.length-(n+1))=v0::r:=by
    cases hd:f.stack.drop (f.stack.length-(n+1))with
    | nil=>have:=congrArg List.length hd;simp at this;omega
    | cons v0 r=>exact⟨v0,r,rfl⟩
   have QX:((aR M fs f).f.stack.drop ((aR M fs f).f.stack.length-(cx u ⟨21,a,b⟩).toNat)).getD 0 cJ=v0:=by
    rw[hm];show(f.stack.drop _).getD 0 cJ=v0;rw[hg];rfl
   have x9:=Dk qc QX;rw[hm]at x9;rw[x9];have pQ:v0∈f.stack:=by
    have:v0∈f.stack.drop (f.stack.length-(n+1)):=by rw[hg];simp
    exact List.mem_of_mem_drop this
   have E5:=hv v0 pQ;have U:=QW M fs f;cases hr:v0.ref with
   | false =>
    rw[if_neg (by rw[hg];simp[iU,hr]),if_pos rfl];exact Rl.stuck rfl
   | true =>
    have rJ:=E5.1 hr;rw[if_pos (by rw[hg];simp[iU,hr,Bz]),if_neg (by simp)];show Rl (match ef M.objs ((f.stack.drop (f.stack.length-(n+1))).getD 0 cJ).n (up u.J (aF M.objs ((f.stack.drop (f.stack.length-(n+1))).getD 0 cJ).n).cls a)with
     | .error e=>.error e
     | .ok o=>jI u (find u o.cls b) (f.stack.drop (f.stack.length-(n+1))) {M with ag:=fs++[{f with stack:=f.stack.take (f.stack.length-(n+1))}]}) _
    have rR:(f.stack.drop (f.stack.length-(n+1))).getD 0 cJ=v0:=by rw[hg];rfl
    rw[rR];by_cases h0:v0.n=0
    ·rw[fT h0,h0,yC U,if_pos (.inr (by show(0:Int) < 2;decide))];exact Rl.Kf (by decide) rfl rfl
    ·have h1:0 < v0.n:=by omega
     have dh:fq u (aF M.objs v0.n).cls a = !up u.J (aF M.objs v0.n).cls a:=by
      unfold fq;cases hu:up u.J (aF M.objs v0.n).cls a with
      | true =>
       have:=kI hu;simp[show ¬a < 0 by omega,this]
      | false=>simp[ha]
     cases hu:up u.J (aF M.objs v0.n).cls a with
     | true =>
      rw[vO U h0 (by show fq u (aF M.objs v0.n).cls a=false;rw[dh,hu];rfl),if_neg U,gh h1 rfl];show Rl (jI u _ _ _) _;unfold jI;by_cases h4:fs.length+1=4
      ·rw[if_pos (by simp;omega),if_pos (show(aR M fs f).fs.length+1=4 from h4)];exact Rl.Kf (by decide) rfl rfl
      ·rw[if_neg (by simp;omega),if_neg (show ¬(aR M fs f).fs.length+1=4 from h4)];exact Rl.ok rfl
     | false =>
      rw[yD U h0 (by show fq u (aF M.objs v0.n).cls a=true;rw[dh,hu];rfl),if_pos (.inl rfl),fS h1 rfl];exact Rl.stuck rfl
def Ni (u:aU) (M:bZ) (fs:List bU) (f:bU):bZ × Bool × Int :=
 if f.pc=(br u f.ah).code.length then (M,true,0)else yA u (aR M fs f) ((br u f.ah).code.getD f.pc.toNat dW)
theorem Nj (u:aU) (M:bZ) (fs:List bU) (f:bU) (hu:eC u) (h:zC u M) (hf:M.ag=fs++[f]):Rl (lz u fs f M) (Ni u M fs f):=by
 have hF:=h.jy f (by rw[hf];simp);have sF:fs.length+1<=4:=by have:=h.nf;rw[hf]at this;simpa using this
 unfold Ni;by_cases D0:f.pc=(br u f.ah).code.length
 ·rw[if_pos D0];unfold lz;simp only;rw[if_pos (by omega)];exact Rl.stuck rfl
 ·rw[if_neg D0];have fV:=hF.2.1;have cG:f.pc.toNat < (br u f.ah).code.length:=by omega
  have jz:(br u f.ah).code.getD f.pc.toNat dW=(br u f.ah).code[f.pc.toNat]:=by simp[cG]
  have kK:=(hu.br hF.1).2.1.2.2.2.1 _ (List.getElem_mem cG);rw[<-jz]at kK;have hd:lz u fs f M=match dB u ((br u f.ah).code.getD f.pc.toNat dW) f.stack with
   | none=>.error 0
   | some (aS,rest)=>if 20<=((br u f.ah).code.getD f.pc.toNat dW).kind/\((br u f.ah).code.getD f.pc.toNat dW).kind<=23 then jk u ((br u f.ah).code.getD f.pc.toNat dW) aS fs {M with ag:=fs++[{f with stack:=rest}]}
    else rZ M fs f (gK u ((br u f.ah).code.getD f.pc.toNat dW) aS M.objs {f with stack:=rest} M.said) ((br u f.ah).code.getD f.pc.toNat dW).a:=by
   unfold lz;simp only;rw[if_neg (by omega)];rfl
  rw[hd];generalize (br u f.ah).code.getD f.pc.toNat dW=x at kK ⊢;obtain⟨k,a,b⟩:=x;simp only;have iT:=hF.2.2.2.2.2;have dZ:yA u (aR M fs f) ⟨k,a,b⟩=if k=22 then wH (aR M fs f)
   else if k=20\/k=21 then jT u (aR M fs f) ⟨k,a,b⟩
   else if k=23 then (if (aE (aR M fs f)).1=0 then (cz (aE (aR M fs f)).2 2).res else if (aE (aR M fs f)).2.st=false then mG u (aE (aR M fs f)).1 (aE (aR M fs f)).2.Bm (aE (aR M fs f)).2.st (aE (aR M fs f)).2.ft else (aE (aR M fs f)).2.res)
   else if 8<=k/\k<=11 then uD (aR M fs f) ⟨k,a,b⟩
   else qJ u (aR M fs f) ⟨k,a,b⟩:=rfl
  rw[dZ];by_cases D4:k=22
  ·subst D4;rw[if_pos rfl];simp only[show(20:Int)<=22/\(22:Int)<=23 from by decide,and_self,if_true];exact Nf u M fs f a b
  rw[if_neg D4];by_cases MW:k=20
  ·subst MW;rw[if_pos (.inl rfl)];simp only[show(20:Int)<=20/\(20:Int)<=23 from by decide,and_self,if_true];exact Ng u M fs f a b sF
  by_cases MX:k=21
  ·subst MX;have:=(aI (p:=5) (q:=9) rfl).1 kK;simp[bA]at this;rw[if_pos (.inr rfl)];simp only[show(20:Int)<=21/\(21:Int)<=23 from by decide,and_self,if_true];exact Nh u M fs f a b sF this.1.1 iT
  rw[if_neg (by omega)];by_cases JU:k=23
  ·subst JU;rw[if_pos rfl];simp only[show(20:Int)<=23/\(23:Int)<=23 from by decide,and_self,if_true];exact Kl u M fs f a b iT
  rw[if_neg JU];have PD:¬(20<=k/\k<=23):=by omega
  simp only[PD,if_false];by_cases kj:8<=k/\k<=11
  ·rw[if_pos kj];exact Nc u M fs f k a b kj
  rw[if_neg kj];by_cases kt:12<=k/\k<=19
  ·refine Hw u M fs f k a b kt iT (λhk=>?_) (λhk=>?_)
   ·rcases hk with rfl|rfl|rfl;all_goals
     have:=(aI (p:=6) (q:=0) rfl).1 kK;simp[bA]at this;exact this.1
   ·exact(kK.vM.1 hk).1
  ·have Qw:k=1\/k=2\/k=3\/k=4\/k=5\/k=6\/k=7\/k=24:=by
    obtain⟨p,q,hw,_⟩:=kK;have dy:=vD hw;simp only[jR,eB,List.mem_cons,List.not_mem_nil,or_false,Prod.mk.injEq]at dy;omega
   exact Kh u M fs f k a b Qw
end Go.Proofs
