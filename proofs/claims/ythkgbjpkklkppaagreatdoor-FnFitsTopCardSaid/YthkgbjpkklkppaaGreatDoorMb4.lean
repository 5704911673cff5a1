/- Lemmas. -/
import Derived.Test.YthkgbjpkklkppaaGreatDoorMb3
set_option linter.unusedSimpArgs false
set_option linter.unusedVariables false
namespace Go.Proofs
open Go.Vc Go.Proofs.Tryz
set_option maxRecDepth 100000
set_option maxHeartbeats 4000000
theorem RO {h0 h:Heap} {c:Nat} {t:List Value} {u:aI} {x:Sx} {B:List Nat} (z:XS h0 h c t u x B) (p:iQ u x) (b:Int) :
  bq prog 227 [.pointer (some ⟨c,0,none⟩),.int .i64 b] h λ_ w=>XR h0 h c t u B (Ez x b) w:=by
 have q:=p.word.1;have s:=q.word.1;refine bE ax func227 Rf U rfl ?_;conv=>whnf
 refine aB (kq z p) (λv D a=>?_);have i:=a.1;subst i;refine a.2.elim λA d=>?_;conv=>whnf
 refine aB (kq d.1 q) (λv E a=>?_);have i:=a.1;subst i;refine a.2.elim λC e=>?_;have m:=d.2.1.trans e.2.1;have j:=e.2.2.trans d.2.2;have o:=e.1;conv=>whnf
 refine au (D0 _ _ _ _) ?_;unfold Rz;conv=>whnf
 apply dG<;>intro g;all_goals conv=>whnf
 ·refine aB (iq o 1) (λv y a=>?_);conv=>whnf
  have f:Ez x b=cj (aD (aD x).2).2 1:=if_neg (by rw[g];simp);rw[f];exact a.trans m j
 refine au (kR _ _) ?_;conv=>whnf
 refine aB (jC o (by have:=s.nf;omega) (by have:=s.jX.2.2.2.1;omega) ⟨false,(gI b (aD (aD x).2).1 (aD x).1).1⟩) (λv y a=>?_);conv=>whnf
 have f:Ez x b=cT (aD (aD x).2).2 ⟨false,(gI b (aD (aD x).2).1 (aD x).1).1⟩:=if_pos g;rw[f];exact a.trans m j
theorem G0 {h0 h:Heap} {c:Nat} {G:List Value} {u:aI} {x:Sx} {B:List Nat} (hX:XS h0 h c G u x B) (hs:iQ u x) (k:Int) (hk:k=0\/k=1) :
  bq prog 229 [.pointer (some ⟨c,0,none⟩),.int .i64 k] h λ_ h'=>XR h0 h c G u B (ko x k) h':=by
 have oh:=hX.ma.in;have hle:=hX.ma.le;have EB:=hs.word.1;have UK:=hs.word.2;have J3:ko x k=gH (if 0<=(aD x).1/\(aD x).1<=6 then (aD x).2 else cj (aD x).2 4) (jB k (aD x).1):=rfl;rw[J3];refine bE ax func229 Rh U rfl ?_;conv=>whnf
 refine aB (kq hX hs) (λv z a=>?_);have Q:=a.1;subst Q;refine a.2.elim λV RP=>?_;have L:=RP.1;have Lw:=RP.2.1;have e1:=RP.2.2;conv=>whnf
 refine au (dW _ _ _ _) ?_;conv=>whnf
 apply aX<;>intro K;all_goals conv=>whnf
 ·refine aB (iq L 4) (λv A a=>?_);refine a.elim λW Lx=>?_;have T:=Lx.1;have RN:=Lw.trans Lx.2.1;have e2:=Lx.2.2.trans e1;have J4:=EB.MB (k:=4) O;rw[if_neg K];conv=>whnf
  have hm:(jB k (aD x).1).bp.length=(min (aD x).1 6).toNat:=by simp[jB]
  have EC:(jB k (aD x).1).cls = -1-k:=rfl;generalize Xv:(aD x).1=n at hm EC UK K ⊢;obtain⟨m,OP⟩:∃ m,m=(min n 6).toNat:=⟨_,rfl⟩
  have ED:(jB k n).bp=List.replicate m ⟨decide (k=1),0⟩:=by rw[OP];rfl
  refine av ?_;conv=>whnf
  refine eF [0,1,4,5,6] [5] (λs:Nat × Heap × Option Addr × Nat × List Nat=>s.1<=m/\A.le s.2.1/\dx s.2.1 (.slice s.2.2.1 s.1 s.2.2.2.1) (List.replicate s.1 ⟨decide (k=1),0⟩) s.2.2.2.2/\∀ b∈s.2.2.2.2,A b=none) (λs=>m-s.1)
   (λs=>([.v (.pointer (some ⟨c,0,none⟩)),.v (.int .i64 k),.v (.int .i64 n),.l 5 0,.v (.int .i64 s.1)],[some [.int .i64 (-1-k),.slice s.2.2.1 s.1 s.2.2.2.1]],s.2.1))
   (0,A,none,0,[]) ⟨O,z_ A,⟨Z,.inl ⟨rfl,Z,rfl⟩⟩,Z⟩ rfl ?_
  rintro⟨i,q,S,I,p⟩ ⟨hi,o,F,t⟩;simp only at hi o F t ⊢;conv=>whnf
  have step:i < m->App 16 2 [.bool false,.int .i64 0] 31 q S i I 1 [.bool (decide (k=1)),.int .i64 0] (λw g=>∃ j f,w=.slice j (i+1) f/\∃ d,A.le g/\dx g (.slice j (i+1) f) (List.replicate (i+1) ⟨decide (k=1),0⟩) d/\∀ b∈d,A b=none):=by
   intro M;have Xw:((List.replicate i (⟨decide (k=1),0⟩:Vl)).map dO).length=i:=by simp
   refine dh (h0:=A) (ys:=[dO ⟨decide (k=1),0⟩]) F t o rfl rfl (by simp[dO]) rfl rfl (by simp;omega) (by simp;omega) ?_;intro w g d Y g2 g3 g4 g5;have y:dx g w (List.replicate (i+1) ⟨decide (k=1),0⟩) d:=by
    unfold dx;rw[List.replicate_succ',List.map_append];exact g2
   obtain⟨j,f,rfl,_⟩:=y.form;have Aj:((List.replicate (i+1) (⟨decide (k=1),0⟩:Vl)).map dO).length=i+1:=by simp
   rw[Aj]at y ⊢;exact⟨j,f,rfl,d,Y,y,g3⟩
  by_cases M:i < m
  ·refine dm ?_;conv=>whnf
   refine dm ?_;conv=>whnf
   refine(step M).mono (λw g a=>?_);refine a.elim λj a=>a.elim λf a=>?_;have Q:=a.1;subst Q;refine a.2.elim λd a=>?_;conv=>whnf
   refine av ?_;conv=>whnf
   exact cL (i+1,g,j,f,d) ⟨O,a⟩ (by simp only;omega) rfl
  have yH:i=m:=by omega
  subst yH;have J:∀ {v:Value} {e:Heap},(∃ H,XS h0 e c G u (gH (cj (aD x).2 4) (jB k n)) H/\Ev q e ((c::W)++p) (c::H)/\rd e c 3=rd q c 3)->XR h0 h c G u B (gH (cj (aD x).2 4) (jB k n)) e:=by
   intro v e a;obtain⟨X,k1,k2,k3⟩:=a;obtain⟨_,_,k4⟩:=XM.mono T o;refine⟨X,k1,RN.trans ((Ev.of_le o ((c::W)++p) (λb C=>(u_.1 C).imp id (t b))).trans k2),k3.trans (k4.trans e2)⟩
  have tQ:∀ b∈p,b ∉ c::W/\h0 b=none:=by
   intro b C;have E:=t b C;refine⟨λhx=>?_,?_⟩
   ·obtain⟨R,P⟩:=T.ma.in b hx;rw[E]at P;cases P
   cases a:h0 b with
   | none=>rfl
   | some R=>rw[T.ma.le b R a]at E;cases E
  have RQ:dx q (.slice S i I) (jB k n).bp p:=by rw[ED];exact F
  have D:=Ah (XM.mono T o).1 J4 (jB k n) RQ tQ;rw[show(jB k n).cls = -1-k from rfl]at D;by_cases N:(i:Int) < n
  ·refine fD N ?_;conv=>whnf
   refine bZ ?_;conv=>whnf
   refine aB D (λv e a=>?_);conv=>whnf
   exact J (v:=v) a
  refine cu N ?_;conv=>whnf
  refine aB D (λv e a=>?_);conv=>whnf
  exact J (v:=v) a
 rw[if_pos K];have hm:(jB k (aD x).1).bp.length=(min (aD x).1 6).toNat:=by simp[jB]
 have EC:(jB k (aD x).1).cls = -1-k:=rfl;generalize Xv:(aD x).1=n at hm EC UK K ⊢;obtain⟨m,OP⟩:∃ m,m=(min n 6).toNat:=⟨_,rfl⟩
 have ED:(jB k n).bp=List.replicate m ⟨decide (k=1),0⟩:=by rw[OP];rfl
 refine av ?_;conv=>whnf
 refine eF [0,1,4,5,6] [5] (λs:Nat × Heap × Option Addr × Nat × List Nat=>s.1<=m/\z.le s.2.1/\dx s.2.1 (.slice s.2.2.1 s.1 s.2.2.2.1) (List.replicate s.1 ⟨decide (k=1),0⟩) s.2.2.2.2/\∀ b∈s.2.2.2.2,z b=none) (λs=>m-s.1)
  (λs=>([.v (.pointer (some ⟨c,0,none⟩)),.v (.int .i64 k),.v (.int .i64 n),.l 5 0,.v (.int .i64 s.1)],[some [.int .i64 (-1-k),.slice s.2.2.1 s.1 s.2.2.2.1]],s.2.1))
  (0,z,none,0,[]) ⟨O,z_ z,⟨Z,.inl ⟨rfl,Z,rfl⟩⟩,Z⟩ rfl ?_
 rintro⟨i,q,S,I,p⟩ ⟨hi,o,F,t⟩;simp only at hi o F t ⊢;conv=>whnf
 have step:i < m->App 16 2 [.bool false,.int .i64 0] 31 q S i I 1 [.bool (decide (k=1)),.int .i64 0] (λw g=>∃ j f,w=.slice j (i+1) f/\∃ d,z.le g/\dx g (.slice j (i+1) f) (List.replicate (i+1) ⟨decide (k=1),0⟩) d/\∀ b∈d,z b=none):=by
  intro M;have Xw:((List.replicate i (⟨decide (k=1),0⟩:Vl)).map dO).length=i:=by simp
  refine dh (h0:=z) (ys:=[dO ⟨decide (k=1),0⟩]) F t o rfl rfl (by simp[dO]) rfl rfl (by simp;omega) (by simp;omega) ?_;intro w g d Y g2 g3 g4 g5;have y:dx g w (List.replicate (i+1) ⟨decide (k=1),0⟩) d:=by
   unfold dx;rw[List.replicate_succ',List.map_append];exact g2
  obtain⟨j,f,rfl,_⟩:=y.form;have Aj:((List.replicate (i+1) (⟨decide (k=1),0⟩:Vl)).map dO).length=i+1:=by simp
  rw[Aj]at y ⊢;exact⟨j,f,rfl,d,Y,y,g3⟩
 by_cases M:i < m
 ·refine dm ?_;conv=>whnf
  refine dm ?_;conv=>whnf
  refine(step M).mono (λw g a=>?_);refine a.elim λj a=>a.elim λf a=>?_;have Q:=a.1;subst Q;refine a.2.elim λd a=>?_;conv=>whnf
  refine av ?_;conv=>whnf
  exact cL (i+1,g,j,f,d) ⟨O,a⟩ (by simp only;omega) rfl
 have yH:i=m:=by omega
 subst yH;have J:∀ {v:Value} {e:Heap},(∃ H,XS h0 e c G u (gH (aD x).2 (jB k n)) H/\Ev q e ((c::V)++p) (c::H)/\rd e c 3=rd q c 3)->XR h0 h c G u B (gH (aD x).2 (jB k n)) e:=by
  intro v e a;obtain⟨X,k1,k2,k3⟩:=a;obtain⟨_,_,k4⟩:=XM.mono L o;refine⟨X,k1,Lw.trans ((Ev.of_le o ((c::V)++p) (λb C=>(u_.1 C).imp id (t b))).trans k2),k3.trans (k4.trans e1)⟩
 have tQ:∀ b∈p,b ∉ c::V/\h0 b=none:=by
  intro b C;have E:=t b C;refine⟨λhx=>?_,?_⟩
  ·obtain⟨R,P⟩:=L.ma.in b hx;rw[E]at P;cases P
  cases a:h0 b with
  | none=>rfl
  | some R=>rw[L.ma.le b R a]at E;cases E
 have RQ:dx q (.slice S i I) (jB k n).bp p:=by rw[ED];exact F
 have D:=Ah (XM.mono L o).1 EB (jB k n) RQ tQ;rw[show(jB k n).cls = -1-k from rfl]at D;by_cases N:(i:Int) < n
 ·refine fD N ?_;conv=>whnf
  refine bZ ?_;conv=>whnf
  refine aB D (λv e a=>?_);conv=>whnf
  exact J (v:=v) a
 refine cu N ?_;conv=>whnf
 refine aB D (λv e a=>?_);conv=>whnf
 exact J (v:=v) a
theorem iQ.wQ {u:aI} {x:Sx} (h:iQ u x):x.fs.length<=1000:=by have:=h.nf;omega
theorem iQ.uE {u:aI} {x:Sx} (h:iQ u x):x.f.stack.length<=1000:=by have:=h.jX.2.2.2.1;omega
theorem J5 {h0 h:Heap} {c:Nat} {C:List Value} {u:aI} {x:Sx} {B:List Nat} (M:XS h0 h c C u x B) (w:iQ u x) :
  bq prog 230 [.pointer (some ⟨c,0,none⟩)] h λ_ p=>XR h0 h c C u B (oq x) p:=by
 have f:=w.ref;have F:oq x=if 0 < (aE x).1/\(aE x).2.st=false/\0<=(aM (aE x).2.objs (aE x).1).cls then { (aE x).2 with st:=true}else if (aE x).1=0 then cj (aE x).2 2 else cT (aE x).2 ⟨false,(aM (aE x).2.objs (aE x).1).bp.length⟩:=rfl
 have Q:(aE x).2.objs.length=x.objs.length:=by rw[(gL x).2.1]
 have hlen:=w.len.2;rw[F];clear F;have v:=rO M w;generalize hn:(aE x).1=n at f v ⊢;generalize hy:(aE x).2=y at f v Q ⊢;refine bE ax func230 Ri U rfl ?_;conv=>whnf
 refine aB v (λD L a=>?_);have z:=a.1;subst z;refine a.2.elim λI s=>?_;have d:=s.1;have j:=s.2.1;have i:=s.2.2;have V:=d.iP.1;conv=>whnf
 by_cases e:n=0
 ·rw[if_neg O,if_pos e];refine bZ ?_;conv=>whnf
  repeat' ((first|refine dm ?_|refine bZ ?_)<;>conv=>whnf)
  refine aB (iq d 2) (λD E a=>?_);conv=>whnf
  exact a.trans j i
 have t:0 < n:=by omega
 refine(d.mO t O).elim λX b=>b.elim λY b=>b.elim λvv b=>b.elim λW b=>?_;have A:=b.1;have T:=b.2.1;have G:=b.2.2.1;have S:=b.2.2.2.1;refine S.form.elim λpv q=>q.elim λcv q=>?_;have z:=q.1;subst z;have P:=fj dO (aM y.objs n).bp;refine fD t ?_;conv=>whnf
 refine ld V ?_;conv=>whnf
 have push:∀ {H:Sx},H=cT y ⟨false,(aM y.objs n).bp.length⟩->bq prog 224 [.pointer (some ⟨c,0,none⟩),IK ⟨false,((List.map dO (aM y.objs n).bp).length:Int)⟩] L λ_ p=>XR h0 h c C u B H p:=λR=>by
  rw[R,P];exact(jC d f.1.wQ f.1.uE _).mono (λ_ _ a=>a.trans j i)
 apply dG<;>intro m;all_goals conv=>whnf
 ·repeat' ((first|refine ld A ?_|refine ld T ?_|refine ay ?_|refine av ?_|refine ptr ?_)<;>conv=>whnf)
  apply aC<;>intro o;all_goals conv=>whnf
  ·rw[if_pos ⟨t,m,o⟩];refine d.stuck (λh2 N K J=>?_);conv=>whnf
   exact⟨I,N,j.trans K,J.trans i⟩
  rw[if_neg (λg=>o g.2.2),if_neg e];refine cu e ?_;conv=>whnf
  repeat' ((first|refine ld A ?_|refine ld G ?_|refine ay ?_|refine av ?_|refine ptr ?_)<;>conv=>whnf)
  refine au (kR _ _) ?_;conv=>whnf
  refine aB (push rfl) (λD E a=>?_);conv=>whnf
  exact a
 rw[if_neg (λg=>by rw[m]at g;cases g.2.1),if_neg e];refine cu e ?_;conv=>whnf
 repeat' ((first|refine ld A ?_|refine ld G ?_|refine ay ?_|refine av ?_|refine ptr ?_)<;>conv=>whnf)
 refine au (kR _ _) ?_;conv=>whnf
 refine aB (push rfl) (λD E a=>?_);conv=>whnf
 exact a
theorem CF (h:Heap) (a n c:Nat) (k cls:Int) (e:rd h a (0+(k-1).toNat*2)=some (.int .i64 cls)) (g:0 < k/\k<=n) (i:n<=1000) (f : -2<=cls/\cls<=900) :
  Pure prog 36 [.slice (some ⟨a,0,none⟩) n c,.agg #[.bool true,.int .i64 k]] h (.int .i64 (typeOf cls)):=by
 refine gF ax func36 Ww U rfl ?_;conv=>whnf
 refine bZ ?_;conv=>whnf
 repeat' ((first|refine ld e ?_|refine ay ?_|refine av ?_|refine ptr ?_)<;>conv=>whnf)
 unfold typeOf;by_cases b:cls = -1
 ·subst b;repeat' ((first|refine dm ?_|refine bZ ?_|refine eN ?_|refine eO ?_|apply aC<;>intro _|apply aX<;>intro _|apply fh<;>intro _|apply dG<;>intro _|refine ay ?_|refine av ?_|refine ptr ?_)<;>conv=>whnf)
  exact⟨rfl,rfl⟩
 by_cases d:cls = -2
 ·subst d;repeat' ((first|refine dm ?_|refine bZ ?_|refine eN ?_|refine eO ?_|apply aC<;>intro _|apply aX<;>intro _|apply fh<;>intro _|apply dG<;>intro _|refine ay ?_|refine av ?_|refine ptr ?_)<;>conv=>whnf)
  exact⟨rfl,rfl⟩
 rw[if_neg b,if_neg d];repeat' ((first|refine dm ?_|refine bZ ?_|refine eN ?_|refine eO ?_|apply aC<;>intro _|apply aX<;>intro _|apply fh<;>intro _|apply dG<;>intro _|refine ay ?_|refine av ?_|refine ptr ?_|refine ld e ?_)<;>conv=>whnf)
 all_goals first|(exfalso;omega)|exact⟨rfl,rfl⟩
theorem J6 {h0 h:Heap} {j:Nat} {C:List Value} {u:aI} {x:Sx} {B:List Nat} (K:XS h0 h j C u x B) (t:iQ u x) (ok:bX u.ak) (k:Int) (hk:0<=k/\k < u.ak.length) :
  bq prog 233 [.pointer (some ⟨j,0,none⟩),.int .i64 k] h λ_ H=>XR h0 h j C u B (ox u x k) H:=by
 have e:=t.ref;have z:ox u x k=if (aE x).2.st=true then (aE x).2 else if 0 < (aE x).1/\dQ u.ak (typeOf (aM (aE x).2.objs (aE x).1).cls) (8+k)=false then cj (aE x).2 5 else cT (aE x).2 ⟨true,(aE x).1⟩:=rfl
 have N:(aE x).2.objs.length=x.objs.length:=by rw[(gL x).2.1]
 have hlen:=t.len.2;have sH:=ok.2.1;rw[z];clear z;have s:=rO K t;generalize hn:(aE x).1=n at e s ⊢;generalize hy:(aE x).2=y at e s N ⊢;refine bE ax func233 Rj U rfl ?_;conv=>whnf
 refine aB s (λv w a=>?_);have R:=a.1;subst R;refine a.2.elim λD q=>?_;have d:=q.1;have i:=q.2.1;have g:=q.2.2;refine d.iP.2.2.2.2.2.elim λS c=>c.elim λF c=>c.elim λab c=>c.elim λaa c=>?_;have X:=d.iP.1;have W:=c.2.1;have L:=c.2.2.2.2.1;conv=>whnf
 refine ld X ?_;conv=>whnf
 apply fh<;>intro m;all_goals conv=>whnf
 ·rw[if_pos m];exact⟨D,d,i,g⟩
 rw[if_neg (by rw[m];simp)];by_cases UL:n=0
 ·rw[if_neg O];refine bZ ?_;conv=>whnf
  refine au (jD _ _) ?_;conv=>whnf
  refine aB (jC d e.1.wQ e.1.uE ⟨true,n⟩) (λv p a=>?_);conv=>whnf
  exact a.trans i g
 have f:0 < n:=by omega
 refine(d.mO f O).elim λE b=>b.elim λG b=>b.elim λvv b=>b.elim λY b=>?_;have T:=b.1;have V:=b.2.1;have J:=e.1.uF _ (fO (objs:=y.objs) f O);have su : -2<=(aM y.objs n).cls/\(aM y.objs n).cls < u.ak.length:=by
  rcases J.2 with ⟨I,_⟩|⟨I,p,_⟩
  ·have:=ok.1;omega
  omega
 have Q:=CF w E y.objs.length G n (aM y.objs n).cls V ⟨f,O⟩ O O;have P:typeOf (aM y.objs n).cls < 8+u.ak.length:=by unfold typeOf;repeat' split;all_goals omega
 have M:=qS S u.ak.length F u.ak (typeOf (aM y.objs n).cls) (8+k) w L ok P O;refine fD f ?_;conv=>whnf
 repeat' ((first|refine ld W ?_|refine ld T ?_|refine aP (jD _ _) ?_|refine aP Q ?_|refine aP M ?_|refine ay ?_|refine av ?_|refine ptr ?_)<;>conv=>whnf)
 apply dG<;>intro o;all_goals conv=>whnf
 ·rw[if_pos ⟨f,o⟩];refine aB (iq d 5) (λv p a=>?_);conv=>whnf
  exact a.trans i g
 rw[if_neg (λA=>by rw[o]at A;cases A.2)];refine au (jD _ _) ?_;conv=>whnf
 refine aB (jC d e.1.wQ e.1.uE ⟨true,n⟩) (λv p a=>?_);conv=>whnf
 exact a.trans i g
theorem iB {u:aI} {x:Sx} {n k:Int} (d:iQ u x) (h:¬(aZ u x n k).bad):eR u (aM x.objs n).cls k=false:=by
 unfold aZ at h;split at h
 ·rename_i a;exact absurd a h
 rename_i a;have c:x.ft=0:=by
  have:=d.ft;have:¬0 < x.ft:=λe=>a (.inr e);omega
 split at h
 ·refine absurd ?_ h;unfold cj Sx.bad;rw[if_pos c];exact .inr (by show(0:Int) < 2;omega)
 split at h
 ·exact absurd (.inl rfl) h
 rename_i b;simpa using b
theorem XS.wR {h0 h:Heap} {e:Nat} {q:List Value} {u:aI} {y:Sx} {B:List Nat} (w:XS h0 h e q u y B) {n:Int} (C:0 < n) (hle:n<=y.objs.length) {i:Nat} (j:i < (aM y.objs n).bp.length) :
  ∃ d c a f,rd h e 2=some (.slice (some ⟨d,0,none⟩) y.objs.length c)/\rd h d (0+(n-1).toNat*2+1)=some (.slice (some ⟨a,0,none⟩) (List.map dO (aM y.objs n).bp).length f)/\dP h a (0+i*2) 2=some (dO ((aM y.objs n).bp.getD i dy)) /\
   ∀(v:Vl) (K:Heap->Prop),(∀ b,XR h0 h e q u B {y with objs:=gU y.objs n ((aM y.objs n).bp.set i v)} b->K b)->St h a (0+i*2) [.bool v.ref,.int .i64 v.n] K:=by
 obtain⟨d,c,v,M,F,R,G,m,I⟩:=w.mO C hle;obtain⟨Q,f,rfl,_⟩:=m.form;obtain⟨P,g,H,_,_,_⟩:=m.two j;obtain⟨a,pre,L,post,S,o,_,z,D,p,rfl,J⟩:=bY.put m j;rw[o]at g;simp only[v_,Addr.mk.injEq,and_true]at g;subst g;subst o;refine⟨d,c,a,f,F,G,by rw[wJ j];exact H,λv K A=>?_⟩;have E:eH (pre++L++post) (0+i*2) [.bool v.ref,.int .i64 v.n]=pre++dO v++post:=mM O (by rw[p];rfl);refine Bv z (pre++dO v++post) (by simp[p,dO,D]<;>omega) E (λb s t=>?_);exact A b (I b _ (J _ v t) (λN x _=>by rw[s];simp only[Heap.set];rw[if_neg (by simpa using x)]))
theorem Ak {h0 h:Heap} {w:Nat} {R:List Value} {u:aI} {x:Sx} {B:List Nat} (hX:XS h0 h w R u x B) (q:iQ u x) (ok:bX u.ak) (k:Int) (hk:k=0\/k=1) :
  bq prog 231 [.pointer (some ⟨w,0,none⟩),.int .i64 k,.bool true] h λ_ h'=>XR h0 h w R u B (pU u x k true) h':=by
 have Al:pU u x k true=if (aZ u (aE (aD (aU x).2).2).2 (aE (aD (aU x).2).2).1 (-1-k)).bad then aZ u (aE (aD (aU x).2).2).2 (aE (aD (aU x).2).2).1 (-1-k)else if ¬(0<=(aD (aU x).2).1/\(aD (aU x).2).1 < (aM (aZ u (aE (aD (aU x).2).2).2 (aE (aD (aU x).2).2).1 (-1-k)).objs (aE (aD (aU x).2).2).1).bp.length)then cj (aZ u (aE (aD (aU x).2).2).2 (aE (aD (aU x).2).2).1 (-1-k)) 3 else CE (aZ u (aE (aD (aU x).2).2).2 (aE (aD (aU x).2).2).1 (-1-k)) (aE (aD (aU x).2).2).1 (aD (aU x).2).1 (aU x).1:=rfl
 rw[Al];refine bE ax func231 JM Iv rfl ?_;conv=>whnf
 refine aB (tP hX q.wQ q.uE) (λv h1 a=>?_);have b:=a.1;subst b;refine a.2.elim λB1 A=>?_;have G1:=A.1;have X:=A.2.1;have T:=A.2.2;have P:=q.pop.1;have RR:=q.pop.2;have J7:(aU x).2.objs=x.objs:=(iY x).2.1;rw[<-J7]at RR;conv=>whnf
 refine aB (kq G1 P) (λv J a=>?_);have b:=a.1;subst b;refine a.2.elim λB2 C=>?_;have zz:=C.1;have Y:=X.trans C.2.1;have V:=C.2.2.trans T;have Q:=P.word;conv=>whnf
 refine aB (rO zz Q.1) (λv K a=>?_);have b:=a.1;subst b;refine a.2.elim λB3 D=>?_;have J8:=D.1;have Gm:=Y.trans D.2.1;have W:=D.2.2.trans V;have j:=iQ.ref Q.1;conv=>whnf
 refine av ?_;conv=>whnf
 refine aB (pW J8 j.1 ok _ (-1-k) (by rw[(gL _).2.1];exact j.2) O) (λv L a=>?_);refine a.2.1.elim λbn b=>b.elim λon b=>?_;subst b;refine a.1.elim λI E=>?_;have c:=E.1;have jE:=a.2.2;have p:=Gm.trans E.2.1;have o:=E.2.2.trans W;by_cases f:(aZ u (aE (aD (aU x).2).2).2 (aE (aD (aU x).2).2).1 (-1-k)).bad
 ·rw[if_pos f];have t:=c.iP.1;have s:=c.iP.2.1;conv=>whnf
  refine ld t ?_;conv=>whnf
  apply fh<;>intro i;all_goals conv=>whnf
  ·exact⟨I,c,p,o⟩
  refine ld s ?_;conv=>whnf
  refine fD (f.resolve_left (by rw[i];simp)) ?_;conv=>whnf
  exact⟨I,c,p,o⟩
 rw[if_neg f];have g:=jE f;have F:=g.1;have zy:=g.2.1;have Ju:=iB j.1 f;refine g.2.2.elim λbo g=>g.elim λco g=>?_;have M:=g.1;have G:=g.2;simp only[Value.pointer.injEq,v_,Addr.mk.injEq,and_true]at G;have BC:=G.1;have Dw:=G.2;subst BC;subst Dw;rw[zy]at f c ⊢;have pS:(aE (aD (aU x).2).2).2.st=false:=by
  cases a:(aE (aD (aU x).2).2).2.st with
  | false=>rfl
  | true=>exact absurd (.inl a) f
 have xK:(aE (aD (aU x).2).2).2.ft=0:=by
  have h1:=j.1.ft;have J:¬0 < (aE (aD (aU x).2).2).2.ft:=λhx=>f (.inr hx);omega
 have t:=c.iP.1;have s:=c.iP.2.1;rw[pS]at t;rw[xK]at s;conv=>whnf
 repeat' ((first|refine ld t ?_|refine ld s ?_|refine ay ?_|refine av ?_|refine ptr ?_)<;>conv=>whnf)
 have hle:(aE (aD (aU x).2).2).1<=(aE (aD (aU x).2).2).2.objs.length:=by rw[(gL _).2.1];exact j.2.2
 refine(c.mO F hle).elim λOQ d=>d.elim λOR d=>d.elim λvv d=>d.elim λBi d=>?_;have y:=d.1;rw[M]at y;simp only[v_,Z_,Addr.mk.injEq,and_true,true_and]at y;have sG:=y.1;subst sG;have m:=d.2.2.1;have ov:=d.2.2.2.1;have nV:=d.2.2.2.2;have hO:=j.1.uF _ (fO F hle);refine ov.form.elim λpv z=>z.elim λcv z=>?_;have b:=z.1;subst b;have MF:=fj dO (aM (aE (aD (aU x).2).2).2.objs (aE (aD (aU x).2).2).1).bp;have RS:(aM (aE (aD (aU x).2).2).2.objs (aE (aD (aU x).2).2).1).bp.length<=8:=by
  rcases hO.2 with ⟨_,J⟩|⟨_,K,L⟩
  ·omega
  rw[L];exact eL ok K
 repeat' ((first|refine ld m ?_|refine ay ?_|refine av ?_|refine ptr ?_)<;>conv=>whnf)
 refine au (dW _ _ _ _) ?_;conv=>whnf
 by_cases N:0<=(aD (aU x).2).1/\(aD (aU x).2).1 < (aM (aE (aD (aU x).2).2).2.objs (aE (aD (aU x).2).2).1).bp.length
 rotate_left
 ·rw[if_pos N];apply aX<;>intro i;all_goals conv=>whnf
  ·refine aB (iq c 3) (λv h9 a=>?_);conv=>whnf
   exact a.trans p o
  exfalso;omega
 rw[if_neg (by simpa using N)];apply aX<;>intro i;all_goals conv=>whnf
 ·exfalso;omega
 have J9:((aD (aU x).2).1).toNat < (aM (aE (aD (aU x).2).2).2.objs (aE (aD (aU x).2).2).1).bp.length:=by omega
 refine(c.wR F hle J9).elim λRT e=>e.elim λRU e=>e.elim λbv e=>e.elim λRV e=>?_;have H:=e.1;have S:=e.2.1;have z3:=e.2.2.1;have z4:=e.2.2.2;rw[M]at H;simp only[v_,Z_,Addr.mk.injEq,and_true,true_and]at H;have zb:=H.1;subst zb;rw[S]at m;simp only[v_,Z_,true_and]at m;have zp:=m.1;have zc:=m.2;subst zp;subst zc;repeat' ((first|exact trivial|refine ld S ?_|refine ay ?_|refine ptr ?_|apply T_)<;>conv=>whnf)
 all_goals
  refine z4 (aU x).1 _ (λh9 a=>?_);conv=>whnf
  exact a.trans p o
theorem Am {h0 h:Heap} {j:Nat} {P:List Value} {u:aI} {x:Sx} {B:List Nat} (hX:XS h0 h j P u x B) (hs:iQ u x) (ok:bX u.ak) (k:Int) (hk:k=0\/k=1) :
  bq prog 231 [.pointer (some ⟨j,0,none⟩),.int .i64 k,.bool false] h λ_ Y=>XR h0 h j P u B (pU u x k false) Y:=by
 have Al:pU u x k false=if (aZ u (aE (aD x).2).2 (aE (aD x).2).1 (-1-k)).bad then aZ u (aE (aD x).2).2 (aE (aD x).2).1 (-1-k)else if ¬(0<=(aD x).1/\(aD x).1 < (aM (aZ u (aE (aD x).2).2 (aE (aD x).2).1 (-1-k)).objs (aE (aD x).2).1).bp.length)then cj (aZ u (aE (aD x).2).2 (aE (aD x).2).1 (-1-k)) 3 else cT (aZ u (aE (aD x).2).2 (aE (aD x).2).1 (-1-k)) ((aM (aZ u (aE (aD x).2).2 (aE (aD x).2).1 (-1-k)).objs (aE (aD x).2).1).bp.getD (aD x).1.toNat dy):=rfl
 rw[Al];have G1:=hX;have M:=hs;have V:=Ev.refl h (j::B);have R:rd h j 3=rd h j 3:=rfl;refine bE ax func231 JM Iv rfl ?_;conv=>whnf
 refine aB (kq G1 M) (λv H a=>?_);have e:=a.1;subst e;refine a.2.elim λB2 z=>?_;have zz:=z.1;have W:=V.trans z.2.1;have S:=z.2.2.trans R;have N:=M.word;conv=>whnf
 refine aB (rO zz N.1) (λv I a=>?_);have e:=a.1;subst e;refine a.2.elim λB3 A=>?_;have J8:=A.1;have X:=W.trans A.2.1;have T:=A.2.2.trans S;have i:=iQ.ref N.1;conv=>whnf
 refine av ?_;conv=>whnf
 refine aB (pW J8 i.1 ok _ (-1-k) (by rw[(gL _).2.1];exact i.2) O) (λv J a=>?_);refine a.2.1.elim λbn e=>e.elim λon e=>?_;subst e;refine a.1.elim λG C=>?_;have b:=C.1;have jE:=a.2.2;have q:=X.trans C.2.1;have p:=C.2.2.trans T;by_cases f:(aZ u (aE (aD x).2).2 (aE (aD x).2).1 (-1-k)).bad
 ·rw[if_pos f];have t:=b.iP.1;have s:=b.iP.2.1;conv=>whnf
  refine ld t ?_;conv=>whnf
  apply fh<;>intro m;all_goals conv=>whnf
  ·exact⟨G,b,q,p⟩
  refine ld s ?_;conv=>whnf
  refine fD (f.resolve_left (by rw[m];simp)) ?_;conv=>whnf
  exact⟨G,b,q,p⟩
 rw[if_neg f];have g:=jE f;have D:=g.1;have zy:=g.2.1;have Ju:=iB i.1 f;refine g.2.2.elim λbo g=>g.elim λco g=>?_;have K:=g.1;have E:=g.2;simp only[Value.pointer.injEq,v_,Addr.mk.injEq,and_true]at E;have BC:=E.1;have Dw:=E.2;subst BC;subst Dw;rw[zy]at f b ⊢;have pS:(aE (aD x).2).2.st=false:=by
  cases a:(aE (aD x).2).2.st with
  | false=>rfl
  | true=>exact absurd (.inl a) f
 have xK:(aE (aD x).2).2.ft=0:=by
  have h1:=i.1.ft;have H:¬0 < (aE (aD x).2).2.ft:=λhx=>f (.inr hx);omega
 have t:=b.iP.1;have s:=b.iP.2.1;rw[pS]at t;rw[xK]at s;conv=>whnf
 repeat' ((first|refine ld t ?_|refine ld s ?_|refine ay ?_|refine av ?_|refine ptr ?_)<;>conv=>whnf)
 have hle:(aE (aD x).2).1<=(aE (aD x).2).2.objs.length:=by rw[(gL _).2.1];exact i.2.2
 refine(b.mO D hle).elim λOQ c=>c.elim λOR c=>c.elim λvv c=>c.elim λBi c=>?_;have w:=c.1;rw[K]at w;simp only[v_,Z_,Addr.mk.injEq,and_true,true_and]at w;have sG:=w.1;subst sG;have o:=c.2.2.1;have ov:=c.2.2.2.1;have nV:=c.2.2.2.2;have hO:=i.1.uF _ (fO D hle);refine ov.form.elim λpv y=>y.elim λcv y=>?_;have e:=y.1;subst e;have MF:=fj dO (aM (aE (aD x).2).2.objs (aE (aD x).2).1).bp;have RS:(aM (aE (aD x).2).2.objs (aE (aD x).2).1).bp.length<=8:=by
  rcases hO.2 with ⟨_,H⟩|⟨_,I,J⟩
  ·omega
  rw[J];exact eL ok I
 repeat' ((first|refine ld o ?_|refine ay ?_|refine av ?_|refine ptr ?_)<;>conv=>whnf)
 refine au (dW _ _ _ _) ?_;conv=>whnf
 by_cases L:0<=(aD x).1/\(aD x).1 < (aM (aE (aD x).2).2.objs (aE (aD x).2).1).bp.length
 rotate_left
 ·rw[if_pos L];apply aX<;>intro m;all_goals conv=>whnf
  ·refine aB (iq b 3) (λv h9 a=>?_);conv=>whnf
   exact a.trans q p
  exfalso;omega
 rw[if_neg (by simpa using L)];apply aX<;>intro m;all_goals conv=>whnf
 ·exfalso;omega
 have J9:((aD x).1).toNat < (aM (aE (aD x).2).2.objs (aE (aD x).2).1).bp.length:=by omega
 refine(b.wR D hle J9).elim λRT d=>d.elim λRU d=>d.elim λbv d=>d.elim λRV d=>?_;have F:=d.1;have Q:=d.2.1;have z3:=d.2.2.1;have z4:=d.2.2.2;rw[K]at F;simp only[v_,Z_,Addr.mk.injEq,and_true,true_and]at F;have zb:=F.1;subst zb;rw[Q]at o;simp only[v_,Z_,true_and]at o;have zp:=o.1;have zc:=o.2;subst zp;subst zc;repeat' ((first|refine ld Q ?_|refine dZ z3 ?_|refine ay ?_|refine av ?_|refine ptr ?_)<;>conv=>whnf)
 refine aB (jC b i.1.wQ i.1.uE _) (λv h9 a=>?_);conv=>whnf
 exact a.trans q p
theorem yI {h0 h:Heap} {v:Nat} {Q:List Value} {u:aI} {x:Sx} {B:List Nat} (hX:XS h0 h v Q u x B) (p:iQ u x) (ok:bX u.ak) (k i:Int) (hk:0<=k/\k < u.ak.length) (hi:0<=i/\i < (bV u.ak k).length) :
  bq prog 232 [.pointer (some ⟨v,0,none⟩),.int .i64 k,.int .i64 i,.bool true] h λ_ Y=>XR h0 h v Q u B (lY u x k i true) Y:=by
 have Al:lY u x k i true=if (aZ u (aE (aU x).2).2 (aE (aU x).2).1 k).bad then aZ u (aE (aU x).2).2 (aE (aU x).2).1 k else CE (aZ u (aE (aU x).2).2 (aE (aU x).2).1 k) (aE (aU x).2).1 i (aU x).1:=rfl
 rw[Al];refine bE ax func232 JN Iw rfl ?_;conv=>whnf
 refine aB (tP hX p.wQ p.uE) (λR h1 a=>?_);have e:=a.1;subst e;refine a.2.elim λB1 D=>?_;have G1:=D.1;have W:=D.2.1;have T:=D.2.2;have P:=p.pop.1;have RR:=p.pop.2;have J7:(aU x).2.objs=x.objs:=(iY x).2.1;rw[<-J7]at RR;conv=>whnf
 refine aB (rO G1 P) (λR m a=>?_);have e:=a.1;subst e;refine a.2.elim λB3 E=>?_;have J8:=E.1;have X:=W.trans E.2.1;have V:=E.2.2.trans T;have j:=iQ.ref P;conv=>whnf
 refine aB (pW J8 j.1 ok _ k (by rw[(gL _).2.1];exact j.2) O) (λR o a=>?_);refine a.2.1.elim λbn e=>e.elim λon e=>?_;subst e;refine a.1.elim λK F=>?_;have d:=F.1;have jE:=a.2.2;have y:=X.trans F.2.1;have w:=F.2.2.trans V;by_cases f:(aZ u (aE (aU x).2).2 (aE (aU x).2).1 k).bad
 ·rw[if_pos f];have t:=d.iP.1;have s:=d.iP.2.1;conv=>whnf
  refine ld t ?_;conv=>whnf
  apply fh<;>intro L;all_goals conv=>whnf
  ·exact⟨K,d,y,w⟩
  refine ld s ?_;conv=>whnf
  refine fD (f.resolve_left (by rw[L];simp)) ?_;conv=>whnf
  exact⟨K,d,y,w⟩
 rw[if_neg f];have g:=jE f;have G:=g.1;have zy:=g.2.1;have H:=iB j.1 f;refine g.2.2.elim λbo g=>g.elim λco g=>?_;have N:=g.1;have I:=g.2;simp only[Value.pointer.injEq,v_,Addr.mk.injEq,and_true]at I;have BC:=I.1;have Dw:=I.2;subst BC;subst Dw;rw[zy]at f d ⊢;have pS:(aE (aU x).2).2.st=false:=by
  cases a:(aE (aU x).2).2.st with
  | false=>rfl
  | true=>exact absurd (.inl a) f
 have xK:(aE (aU x).2).2.ft=0:=by
  have h1:=j.1.ft;have z:¬0 < (aE (aU x).2).2.ft:=λhx=>f (.inr hx);omega
 have t:=d.iP.1;have s:=d.iP.2.1;rw[pS]at t;rw[xK]at s;conv=>whnf
 repeat' ((first|refine ld t ?_|refine ld s ?_|refine ay ?_|refine av ?_|refine ptr ?_)<;>conv=>whnf)
 have hle:(aE (aU x).2).1<=(aE (aU x).2).2.objs.length:=by rw[(gL _).2.1];exact j.2.2
 refine(d.mO G hle).elim λOQ b=>b.elim λOR b=>b.elim λvv b=>b.elim λBi b=>?_;have A:=b.1;rw[N]at A;simp only[v_,Z_,Addr.mk.injEq,and_true,true_and]at A;have sG:=A.1;subst sG;have q:=b.2.2.1;have ov:=b.2.2.2.1;have nV:=b.2.2.2.2;have M:=j.1.uF _ (fO G hle);refine ov.form.elim λpv C=>C.elim λcv C=>?_;have e:=C.1;subst e;have MF:=fj dO (aM (aE (aU x).2).2.objs (aE (aU x).2).1).bp;have RS:(aM (aE (aU x).2).2.objs (aE (aU x).2).1).bp.length<=8:=by
  rcases M.2 with ⟨_,z⟩|⟨_,m,o⟩
  ·omega
  rw[o];exact eL ok m
 have su:0<=(aM (aE (aU x).2).2.objs (aE (aU x).2).1).cls/\up u.ak (aM (aE (aU x).2).2.objs (aE (aU x).2).1).cls k=true:=by
  unfold eR at H;simp at H;have:=H.2 hk.1;exact this
 have OS:(bV u.ak k).length<=(aM (aE (aU x).2).2.objs (aE (aU x).2).1).bp.length:=by
  rcases M.2 with ⟨z,_⟩|⟨z,m,o⟩
  ·omega
  rw[o];exact wI ok ((aM (aE (aU x).2).2.objs (aE (aU x).2).1).cls.toNat+1) O m su.2
 have J9:(i).toNat < (aM (aE (aU x).2).2.objs (aE (aU x).2).1).bp.length:=by omega
 refine(d.wR G hle J9).elim λRT c=>c.elim λRU c=>c.elim λbv c=>c.elim λRV c=>?_;have J:=c.1;have S:=c.2.1;have z3:=c.2.2.1;have z4:=c.2.2.2;rw[N]at J;simp only[v_,Z_,Addr.mk.injEq,and_true,true_and]at J;have zb:=J.1;subst zb;rw[S]at q;simp only[v_,Z_,true_and]at q;have zp:=q.1;have zc:=q.2;subst zp;subst zc;repeat' ((first|exact trivial|refine ld S ?_|refine ay ?_|refine ptr ?_|apply T_)<;>conv=>whnf)
 all_goals
  refine z4 (aU x).1 _ (λh9 a=>?_);conv=>whnf
  exact a.trans y w
theorem yJ {h0 h:Heap} {m:Nat} {N:List Value} {u:aI} {x:Sx} {B:List Nat} (X:XS h0 h m N u x B) (hs:iQ u x) (ok:bX u.ak) (k i:Int) (hk:0<=k/\k < u.ak.length) (hi:0<=i/\i < (bV u.ak k).length) :
  bq prog 232 [.pointer (some ⟨m,0,none⟩),.int .i64 k,.int .i64 i,.bool false] h λ_ W=>XR h0 h m N u B (lY u x k i false) W:=by
 have Al:lY u x k i false=if (aZ u (aE x).2 (aE x).1 k).bad then aZ u (aE x).2 (aE x).1 k else cT (aZ u (aE x).2 (aE x).1 k) ((aM (aZ u (aE x).2 (aE x).1 k).objs (aE x).1).bp.getD i.toNat dy):=rfl
 rw[Al];have Y:=X;have M:=hs;have T:=Ev.refl h (m::B);have R:rd h m 3=rd h m 3:=rfl;refine bE ax func232 JN Iw rfl ?_;conv=>whnf
 refine aB (rO Y M) (λP o b=>?_);have j:=b.1;subst j;refine b.2.elim λB3 C=>?_;have J8:=C.1;have V:=T.trans C.2.1;have S:=C.2.2.trans R;have g:=iQ.ref M;conv=>whnf
 refine aB (pW J8 g.1 ok _ k (by rw[(gL _).2.1];exact g.2) O) (λP p b=>?_);refine b.2.1.elim λbn j=>j.elim λon j=>?_;subst j;refine b.1.elim λI D=>?_;have a:=D.1;have jE:=b.2.2;have w:=V.trans D.2.1;have v:=D.2.2.trans S;by_cases e:(aZ u (aE x).2 (aE x).1 k).bad
 ·rw[if_pos e];have t:=a.iP.1;have s:=a.iP.2.1;conv=>whnf
  refine ld t ?_;conv=>whnf
  apply fh<;>intro J;all_goals conv=>whnf
  ·exact⟨I,a,w,v⟩
  refine ld s ?_;conv=>whnf
  refine fD (e.resolve_left (by rw[J];simp)) ?_;conv=>whnf
  exact⟨I,a,w,v⟩
 rw[if_neg e];have f:=jE e;have E:=f.1;have zy:=f.2.1;have F:=iB g.1 e;refine f.2.2.elim λbo f=>f.elim λco f=>?_;have L:=f.1;have G:=f.2;simp only[Value.pointer.injEq,v_,Addr.mk.injEq,and_true]at G;have BC:=G.1;have Dw:=G.2;subst BC;subst Dw;rw[zy]at e a ⊢;have pS:(aE x).2.st=false:=by
  cases b:(aE x).2.st with
  | false=>rfl
  | true=>exact absurd (.inl b) e
 have xK:(aE x).2.ft=0:=by
  have h1:=g.1.ft;have y:¬0 < (aE x).2.ft:=λhx=>e (.inr hx);omega
 have t:=a.iP.1;have s:=a.iP.2.1;rw[pS]at t;rw[xK]at s;conv=>whnf
 repeat' ((first|refine ld t ?_|refine ld s ?_|refine ay ?_|refine av ?_|refine ptr ?_)<;>conv=>whnf)
 have hle:(aE x).1<=(aE x).2.objs.length:=by rw[(gL _).2.1];exact g.2.2
 refine(a.mO E hle).elim λOQ c=>c.elim λOR c=>c.elim λvv c=>c.elim λBi c=>?_;have z:=c.1;rw[L]at z;simp only[v_,Z_,Addr.mk.injEq,and_true,true_and]at z;have sG:=z.1;subst sG;have q:=c.2.2.1;have ov:=c.2.2.2.1;have nV:=c.2.2.2.2;have K:=g.1.uF _ (fO E hle);refine ov.form.elim λpv A=>A.elim λcv A=>?_;have j:=A.1;subst j;have MF:=fj dO (aM (aE x).2.objs (aE x).1).bp;have RS:(aM (aE x).2.objs (aE x).1).bp.length<=8:=by
  rcases K.2 with ⟨_,y⟩|⟨_,o,p⟩
  ·omega
  rw[p];exact eL ok o
 have su:0<=(aM (aE x).2.objs (aE x).1).cls/\up u.ak (aM (aE x).2.objs (aE x).1).cls k=true:=by
  unfold eR at F;simp at F;have:=F.2 hk.1;exact this
 have OS:(bV u.ak k).length<=(aM (aE x).2.objs (aE x).1).bp.length:=by
  rcases K.2 with ⟨y,_⟩|⟨y,o,p⟩
  ·omega
  rw[p];exact wI ok ((aM (aE x).2.objs (aE x).1).cls.toNat+1) O o su.2
 have J9:(i).toNat < (aM (aE x).2.objs (aE x).1).bp.length:=by omega
 refine(a.wR E hle J9).elim λRT d=>d.elim λRU d=>d.elim λbv d=>d.elim λRV d=>?_;have H:=d.1;have Q:=d.2.1;have z3:=d.2.2.1;have z4:=d.2.2.2;rw[L]at H;simp only[v_,Z_,Addr.mk.injEq,and_true,true_and]at H;have zb:=H.1;subst zb;rw[Q]at q;simp only[v_,Z_,true_and]at q;have zp:=q.1;have zc:=q.2;subst zp;subst zc;repeat' ((first|refine ld Q ?_|refine dZ z3 ?_|refine ay ?_|refine av ?_|refine ptr ?_)<;>conv=>whnf)
 refine aB (jC a g.1.wQ g.1.uE _) (λP h9 b=>?_);conv=>whnf
 exact b.trans w v
theorem XS.loc {h0 h:Heap} {g:Nat} {z:List Value} {u:aI} {y:Sx} {B:List Nat} {e:Nat} (F:XS h0 h g z u y B) (P:Tp h g y.fs.length e) {i:Nat} (m:i < y.f.locals.length) :
  ∃ a A,rd h e (y.fs.length*4+2)=some (.slice (some ⟨a,0,none⟩) (List.map dO y.f.locals).length A)/\dP h a (0+i*2) 2=some (dO (y.f.locals.getD i dy)) /\
   ∀(v:Vl) (K:Heap->Prop),(∀ d,XR h0 h g z u B {y with f:={y.f with locals:=y.f.locals.set i v} } d->K d)->St h a (0+i*2) [.bool v.ref,.int .i64 v.n] K:=by
 obtain⟨ad,ab,r,v1,W,Y,s,t,hq,q,R,nd,J2,L,Xr,T⟩:=F.lens P;obtain⟨pv,C,rfl,_⟩:=q.form;obtain⟨b0,j,S,_,_,_⟩:=q.two m;obtain⟨a,pre,X,post,tt,w,_,I,N,x,rfl,V⟩:=bY.put q m;rw[w]at j;simp only[v_,Addr.mk.injEq,and_true]at j;subst j;subst w;refine⟨a,C,cX t (i:=2) O rfl,by rw[wJ m];exact S,λv K J=>?_⟩;have Q:eH (pre++X++post) (0+i*2) [.bool v.ref,.int .i64 v.n]=pre++dO v++post:=mM O (by rw[x];rfl);refine Bv I (pre++dO v++post) (by simp[x,dO,N]<;>omega) Q (λd D E=>?_);have o:∀ b,b≠a->d b=h b:=λb c=>by rw[D];simp only[Heap.set,c,if_false]
 have H:=L a Z;have G:∀ b∈s,b≠a:=by
  rintro b c rfl;have:=nd b;have:=W_.2 c;simp only[Y_,X_,List.count_nil,beq_self_eq_true,if_true]at *;omega
 refine J d (T d {y.f with locals:=y.f.locals.set i v} _ W [a] s ?_ ?_ (V _ v E) ?_ (λb c=>.inl c) nd)
 ·rw[o e (λp=>H.1 p.symm)];exact t
 ·intro b c _;exact o b (λp=>c (by simp[p]))
 exact R.aK λb c aa M=>by rw[o b (G b c)];exact M
def eK (x:Sx) (i:dc):Sx :=
 if i.kind=1 then cT x ⟨false,i.a⟩
 else if i.kind=2 then cT x ⟨true,0⟩
 else if i.kind=3 then cT x (x.f.locals.getD i.a.toNat dy)
 else if i.kind=4 then { (aU x).2 with f:={ (aU x).2.f with locals:=(aU x).2.f.locals.set i.a.toNat (aU x).1} }
 else if i.kind=5 then (aU x).2
 else if i.kind=6 then cT (cT (aU x).2 (aU x).1) (aU x).1
 else if i.kind=7 then Ez x i.a
 else if i.kind=24 then (if (aD x).2.st=false then { (aD x).2 with said:=(aD x).2.said++[(aD x).1]}else (aD x).2)
 else x
def fG (u:aI) (x:Sx) (i:dc):Sx :=
 if i.kind=12 then Ag u x i.a
 else if i.kind=13 then ko x i.a
 else if i.kind=14 then oq x
 else if i.kind=15 then pU u x i.a false
 else if i.kind=16 then pU u x i.a true
 else if i.kind=17 then lY u x i.a i.b false
 else if i.kind=18 then lY u x i.a i.b true
 else if i.kind=19 then ox u x i.a
 else x
def er (x:Sx) (i:dc):Bool × Sx :=
 if i.kind=8 then (decide ((aD (aD x).2).1 < (aD x).1),(aD (aD x).2).2)
 else if i.kind=9 then (decide ((aD (aD x).2).1=(aD x).1),(aD (aD x).2).2)
 else if i.kind=10 then (decide ((aE x).1=0),(aE x).2)
 else (decide (i.kind=11),x)
theorem vq (x:Sx):(aU x).2.said=x.said:=by unfold aU;split<;>rfl
theorem An (x:Sx):(aD x).2.said=x.said:=by unfold aD;split<;>exact vq x
structure Ka (u:aI) (x:Sx) (i:dc):Prop where
 loc:i.kind=3\/i.kind=4->0<=i.a/\i.a < x.f.locals.length
 arr:i.kind=13\/i.kind=15\/i.kind=16->i.a=0\/i.a=1
 iJ:pR u i
theorem G2 {h0 h:Heap} {p:Nat} {R:List Value} {u:aI} {x:Sx} {B:List Nat} (g:XS h0 h p R u x B) (e:iQ u x) (j a b:Int) (hi:Ka u x ⟨j,a,b⟩) (IL:x.said.length<=1000) :
  bq prog 190 [.pointer (some ⟨p,0,none⟩),.agg #[.int .i64 j,.int .i64 a,.int .i64 b]] h λ_ C=>XR h0 h p R u B (eK x ⟨j,a,b⟩) C:=by
 obtain⟨W,s⟩:=g.tp;have sw:=pT g s e.wQ;obtain⟨F,_,_⟩:=hi;simp only at F;have push:∀ v:Vl,bq prog 224 [.pointer (some ⟨p,0,none⟩),IK v] h λ_ C=>XR h0 h p R u B (cT x v) C:=λv=>jC g e.wQ e.uE v;refine bE ax func190 QV U rfl ?_;conv=>whnf
 refine au sw ?_;conv=>whnf
 by_cases I:j=1
 ·subst I;conv=>whnf
  refine au (kR _ _) ?_;conv=>whnf
  refine aB (push _) (λv m c=>?_);conv=>whnf
  exact c
 refine cu I ?_;conv=>whnf
 by_cases J:j=2
 ·subst J;conv=>whnf
  refine au (jD _ _) ?_;conv=>whnf
  refine aB (push _) (λv m c=>?_);conv=>whnf
  exact c
 refine cu J ?_;conv=>whnf
 by_cases L:j=3
 ·subst L;have ha:=F (.inl rfl);refine(g.loc s (i:=a.toNat) O).elim λbl f=>f.elim λcl f=>?_;have w:=f.1;have z2:=f.2.1;have uO:=fj dO x.f.locals;conv=>whnf
  repeat' ((first|exact trivial|refine ld w ?_|refine dZ z2 ?_|refine ay ?_|refine ptr ?_|apply T_)<;>conv=>whnf)
  all_goals
   refine aB (push (x.f.locals.getD a.toNat dy)) (λv m c=>?_);conv=>whnf
   exact c
 refine cu L ?_;conv=>whnf
 by_cases M:j=4
 ·subst M;have ha:=F (.inr rfl);have RW:=EA g e.wQ e.uE;refine(g.loc s (i:=a.toNat) O).elim λbl f=>f.elim λcl f=>?_;have w:=f.1;have uO:=fj dO x.f.locals;conv=>whnf
  repeat' ((first|exact trivial|refine ld w ?_|refine ay ?_|refine ptr ?_|apply T_)<;>conv=>whnf)
  all_goals
   refine aB RW (λv m c=>?_);have t:=c.1;subst t;refine c.2.1.elim λz d=>?_;have o:=d.1;have MG:=(c.2.2 W s).trans w;have UM:Tp m p (aU x).2.fs.length W:=by
    obtain⟨c0,k0⟩:=s;exact⟨c0,by rw[d.2.2,(iY x).1];exact k0⟩
   refine(o.loc UM (i:=a.toNat) (by rw[(iY x).2.2.2];omega)).elim λbl2 f=>f.elim λcl2 f=>?_;have T:=f.1;have y3:=f.2.2;rw[(iY x).1,MG,(iY x).2.2.2]at T;simp only[v_,Z_,Addr.mk.injEq,and_true,true_and]at T;have yb:=T.1;subst yb;conv=>whnf
   repeat' ((first|refine ld MG ?_|refine ay ?_|refine ptr ?_)<;>conv=>whnf)
   refine y3 (aU x).1 _ (λh9 Xx=>?_);conv=>whnf
   exact Xx.trans d.2.1 d.2.2
 refine cu M ?_;conv=>whnf
 by_cases N:j=5
 ·subst N;conv=>whnf
  refine aB (tP g e.wQ e.uE) (λv m c=>?_);conv=>whnf
  exact c.2
 refine cu N ?_;conv=>whnf
 by_cases P:j=6
 ·subst P;conv=>whnf
  refine aB (tP g e.wQ e.uE) (λv m c=>?_);have t:=c.1;subst t;refine c.2.elim λz d=>?_;have H:=e.pop.1;have Xy:=e.pop.2;conv=>whnf
  refine aB (jC d.1 H.wQ H.uE (aU x).1) (λv h2 c=>?_);refine c.elim λV E=>?_;have J4:=H.push (v:=(aU x).1) (by rw[(iY x).2.1];exact Xy);conv=>whnf
  refine aB (jC E.1 J4.wQ J4.uE (aU x).1) (λv Y c=>?_);conv=>whnf
  exact(c.trans E.2.1 E.2.2).trans d.2.1 d.2.2
 refine cu P ?_;conv=>whnf
 by_cases Q:j=7
 ·subst Q;conv=>whnf
  refine aB (RO g e a) (λv m c=>?_);conv=>whnf
  exact c
 refine cu Q ?_;conv=>whnf
 by_cases K:j=24
 ·subst K;conv=>whnf
  refine aB (kq g e) (λv m c=>?_);have t:=c.1;subst t;refine c.2.elim λz d=>?_;have o:=d.1;have r9:=o.iP.1;have G:eK x ⟨24,a,b⟩=(if (aD x).2.st=false then { (aD x).2 with said:=(aD x).2.said++[(aD x).1]}else (aD x).2):=rfl;rw[G];have IM:(aD x).2.said.length<=1000:=by
   rw[An];exact IL
  generalize (aD x).2=y at d o r9 IM ⊢;conv=>whnf
  refine ld r9 ?_;conv=>whnf
  apply dG<;>intro A;all_goals conv=>whnf
  ·rw[if_pos A];refine(o.ma.Mu (show y.wO.said.length<=1000 from IM)).elim λaa q=>q.elim λps q=>q.elim λcs q=>q.elim λvo q=>q.elim λS q=>q.elim λD grow=>?_;have r4:rd m p 4=some (.slice ps y.said.length cs):=cX D (i:=2) (by rw[o.BB]) rfl;have r3:rd m p 3=some S:=cX D (i:=1) (by rw[o.BB]) rfl;repeat' ((first|exact trivial|refine ld r4 ?_|apply T_)<;>conv=>whnf)
   all_goals
    refine grow (aD x).1 [] _ _ ⟨rfl,rfl⟩ (λ_=>Z) Z rfl rfl rfl rfl Z ?_;rintro p' c' h2 e1 e2 e3 ⟨V,UN,X⟩;have uN:=e1.trans D;conv=>whnf
    refine qU uN (i:=2) (aR vo S (.slice p' (y.wO.said.length+1) c') y.wO) (by rw[o.BB]) (by simp[aR]) rfl (λY Dx MI=>?_);rw[<-Dx]at UN X;conv=>whnf
    have q3:rd Y p 3=some S:=cX MI (i:=1) (by rw[o.BB]) rfl;exact⟨V,⟨UN,g.un⟩,d.2.1.trans (by simpa using X),(q3.trans r3.symm).trans d.2.2⟩
  rw[if_neg (by rw[A];simp)];exact⟨z,o,d.2⟩
 refine cu K ?_;conv=>whnf
 have G:eK x ⟨j,a,b⟩=x:=by simp[eK,I,J,L,M,N,P,Q,K]
 rw[G];exact⟨B,g,Ev.refl _ _,rfl⟩
theorem Kb {h0 h:Heap} {m:Nat} {A:List Value} {u:aI} {x:Sx} {B:List Nat} (e:XS h0 h m A u x B) (f:iQ u x) (ok:bX u.ak) (d a b:Int) (D:Ka u x ⟨d,a,b⟩) :
  bq prog 191 [.pointer (some ⟨m,0,none⟩),.agg #[.int .i64 d,.int .i64 a,.int .i64 b]] h λ_ C=>XR h0 h m A u B (fG u x ⟨d,a,b⟩) C:=by
 obtain⟨_,j,i⟩:=D;simp only[pR]at j i;refine bE ax func191 JJ Is rfl ?_;conv=>whnf
 by_cases o:d=12
 ·subst o;conv=>whnf
  refine aB (GZ e f ok a (i.1 Z)) (λv g c=>?_);conv=>whnf
  exact c
 refine cu o ?_;conv=>whnf
 by_cases p:d=13
 ·subst p;conv=>whnf
  refine aB (G0 e f a (j Z)) (λv g c=>?_);conv=>whnf
  exact c
 refine cu p ?_;conv=>whnf
 by_cases q:d=14
 ·subst q;conv=>whnf
  refine aB (J5 e f) (λv g c=>?_);conv=>whnf
  exact c
 refine cu q ?_;conv=>whnf
 by_cases s:d=15
 ·subst s;conv=>whnf
  refine aB (Am e f ok a (j Z)) (λv g c=>?_);conv=>whnf
  exact c
 refine cu s ?_;conv=>whnf
 by_cases t:d=16
 ·subst t;conv=>whnf
  refine aB (Ak e f ok a (j Z)) (λv g c=>?_);conv=>whnf
  exact c
 refine cu t ?_;conv=>whnf
 by_cases w:d=17
 ·subst w;conv=>whnf
  refine aB (yJ e f ok a b (i.1 Z) (i.2 Z)) (λv g c=>?_);conv=>whnf
  exact c
 refine cu w ?_;conv=>whnf
 by_cases y:d=18
 ·subst y;conv=>whnf
  refine aB (yI e f ok a b (i.1 Z) (i.2 Z)) (λv g c=>?_);conv=>whnf
  exact c
 refine cu y ?_;conv=>whnf
 by_cases z:d=19
 ·subst z;conv=>whnf
  refine aB (J6 e f ok a (i.1 Z)) (λv g c=>?_);conv=>whnf
  exact c
 refine cu z ?_;conv=>whnf
 have E:fG u x ⟨d,a,b⟩=x:=by simp[fG,o,p,q,s,t,w,y,z]
 rw[E];exact⟨B,e,Ev.refl _ _,rfl⟩
theorem G3 {h0 h:Heap} {j:Nat} {t:List Value} {u:aI} {x:Sx} {B:List Nat} (g:XS h0 h j t u x B) (i:iQ u x) (e a b:Int) :
  bq prog 189 [.pointer (some ⟨j,0,none⟩),.agg #[.int .i64 e,.int .i64 a,.int .i64 b]] h λv y=>v=.bool (er x ⟨e,a,b⟩).1/\XR h0 h j t u B (er x ⟨e,a,b⟩).2 y:=by
 have s:=i.word.1;refine bE ax func189 QU U rfl ?_;conv=>whnf
 by_cases o:e=8
 ·subst o;conv=>whnf
  refine aB (kq g i) (λv q c=>?_);have d:=c.1;subst d;refine c.2.elim λw f=>?_;conv=>whnf
  refine aB (kq f.1 s) (λv z c=>?_);have d:=c.1;subst d;conv=>whnf
  exact⟨rfl,c.2.trans f.2.1 f.2.2⟩
 refine cu o ?_;conv=>whnf
 by_cases p:e=9
 ·subst p;conv=>whnf
  refine aB (kq g i) (λv q c=>?_);have d:=c.1;subst d;refine c.2.elim λw f=>?_;conv=>whnf
  refine aB (kq f.1 s) (λv z c=>?_);have d:=c.1;subst d;conv=>whnf
  exact⟨rfl,c.2.trans f.2.1 f.2.2⟩
 refine cu p ?_;conv=>whnf
 by_cases m:e=10
 ·subst m;conv=>whnf
  refine aB (rO g i) (λv q c=>?_);have d:=c.1;subst d;conv=>whnf
  exact⟨rfl,c.2⟩
 refine cu m ?_;conv=>whnf
 have A:er x ⟨e,a,b⟩=(decide (e=11),x):=by simp[er,o,p,m]
 rw[A];exact⟨rfl,B,g,Ev.refl _ _,rfl⟩
def XE (h0 h:Heap) (a:Nat) (d:List Value) (u:aI) (B:List Nat) (r:cr × Bool × Int) (c:Heap):Prop:=∃ b,XM h0 c a d u r.1 r.2.1 r.2.2 b/\Ev h c (a::B) (a::b)
def Sx.res (x:Sx):cr × Bool × Int:=(x.wO,x.st,x.ft)
theorem XR.Kc {h0 h:Heap} {a:Nat} {c:List Value} {u:aI} {B:List Nat} {y:Sx} {b:Heap} (g:XR h0 h a c u B y b):XE h0 h a c u B y.res b:=by
 obtain⟨d,e,f,_⟩:=g;exact⟨d,e,f⟩
theorem XE.trans {h0 h b c:Heap} {a:Nat} {d:List Value} {u:aI} {B B1:List Nat} {r:cr × Bool × Int} (i:Ev h b (a::B) (a::B1)) (j:XE h0 b a d u B1 r c):XE h0 h a d u B r c:=by
 obtain⟨e,f,g⟩:=j;exact⟨e,f,i.trans g⟩
theorem XS.G4 {h0 h:Heap} {b:Nat} {g:List Value} {u:aI} {x:Sx} {B:List Nat} {a:Nat} (p:XS h0 h b g u x B) (v:Tp h b x.fs.length a) :
  rd h a (x.fs.length*4+1)=some (.int .i64 x.f.pc)/\∀(n:Int) (K:Heap->Prop),(∀ c,XR h0 h b g u B {x with f:={x.f with pc:=n} } c->K c)->St h a (x.fs.length*4+1) [.int .i64 n] K:=by
 obtain⟨H,F,r,A,y,m,j,e,E,w,D,G,z⟩:=p.cA v;refine⟨cX e (i:=1) O rfl,λn K t=>?_⟩;have d:=(z h _ j x.f.stack n (λ_ _ _=>rfl) w (λC q=>.inl q)).2;refine qU e (i:=1) [.int .i64 x.f.aG,.int .i64 n,A,.slice y (x.f.stack.map dO).length m] O Z rfl (λo s _=>?_);rw[<-s]at d;exact t o d
def rP (x:Sx):cr × Bool × Int :=
 let p:=aU x
 if p.2.st=true then p.2.res
 else match p.2.fs.getLast? with
  | none=>(⟨x.objs,[],x.said,x.steps,1,p.1⟩,p.2.st,p.2.ft)
  | some g =>
   let y:=cT {p.2 with fs:=p.2.fs.dropLast,f:=g} p.1
   ({y with f:={y.f with pc:=y.f.pc+1} }:Sx).res
theorem yK (x:Sx) (v:Vl):(cT x v).fs=x.fs/\(cT x v).f.pc=x.f.pc/\(cT x v).f.aG=x.f.aG:=by unfold cT;split<;>exact⟨rfl,rfl,rfl⟩
theorem Ke {h0 h:Heap} {e:Nat} {us:List Value} {u:aI} {x:Sx} {B:List Nat} (s:XS h0 h e us u x B) (J:iQ u x) (E:∀ g∈x.fs,tM u x.objs.length g) (hc:∀ m:bT,m∈u.methods->m.code.length<=1000) :
  bq prog 184 [.pointer (some ⟨e,0,none⟩)] h λ_ h'=>XE h0 h e us u B (rP x) h':=by
 have EB:=J.pop.1;have H:=iY x;have Kf:=vq x;have RX:(aU x).2.steps=x.steps/\(aU x).2.fin=x.fin/\(aU x).2.out=x.out:=by unfold aU;split<;>exact⟨rfl,rfl,rfl⟩
 have W:rP x=if (aU x).2.st=true then (aU x).2.res else match (aU x).2.fs.getLast? with
  | none=>(⟨x.objs,[],x.said,x.steps,1,(aU x).1⟩,(aU x).2.st,(aU x).2.ft)
  | some g=>({ (cT { (aU x).2 with fs:=(aU x).2.fs.dropLast,f:=g} (aU x).1)with f:={ (cT { (aU x).2 with fs:=(aU x).2.fs.dropLast,f:=g} (aU x).1).f with pc:=(cT { (aU x).2 with fs:=(aU x).2.fs.dropLast,f:=g} (aU x).1).f.pc+1} }:Sx).res:=rfl
 rw[W];clear W;obtain⟨z,p,A,q,rfl,_⟩:=s.un.form;rw[<-H.1,<-H.2.1]at E;rw[<-H.2.1,<-Kf,<-RX.1];refine bE ax func184 QN U rfl ?_;conv=>whnf
 refine aB (tP s J.wQ J.uE) (λaa h1 v=>?_);have hv:=v.1;subst hv;refine v.2.elim λB1 Y=>?_;have o:=Y.1;have R:=Y.2.1;generalize (aU x).2=y at E EB o ⊢;generalize (aU x).1=w;have r9:=o.iP.1;conv=>whnf
 refine ld r9 ?_;conv=>whnf
 apply fh<;>intro g;all_goals conv=>whnf
 ·rw[if_pos g];exact⟨B1,o,R⟩
 rw[if_neg (by rw[g];simp)];refine(o.ma.Mv (fs:=y.fs) (f:=y.f) rfl).elim λtb a=>a.elim λpf a=>a.elim λQ a=>a.elim λvo a=>a.elim λvs a=>?_;have X:=a.1;have CD:=a.2.1;refine a.2.2.elim λP K=>?_;have r3:rd h1 e 3=some (.slice pf (y.fs.length+1) Q):=cX X (i:=1) (by rw[o.BB]) rfl;have Ly:=EB.nf;repeat' ((first|refine ld r3 ?_|refine ay ?_|refine av ?_|refine ptr ?_)<;>conv=>whnf)
 have MJ:(((y.fs.length+1:Nat):Int)-1).toNat=y.fs.length:=by omega
 refine qU X (i:=1) (aR vo (.slice pf (((y.fs.length+1:Nat):Int)-1).toNat Q) vs y.wO) (by rw[o.BB]) (by simp[aR]) rfl (λT Lx g2=>?_);rw[MJ]at Lx g2;rw[<-Lx]at K;have D:=K.1;have S:=R.trans K.2;conv=>whnf
 rcases List.eq_nil_or_concat y.fs with b|⟨d,j,b⟩
 ·have Lz:y.fs.length=0:=by rw[b];rfl
  have F:y.fs.getLast? = none:=by rw[b];rfl
  rw[F];refine dm ?_;conv=>whnf
  refine D.ints.elim λt2 c=>c.elim λM c=>c.elim λL c=>c.elim λN c=>?_;have sG:=c.1;have nV:=c.2.2.2.2;refine Bv sG ([.slice z u.ak.length p,.slice A u.methods.length q]++aR M L N ⟨y.objs,y.fs,y.said,y.steps,1,y.out⟩++[.bool y.st,.int .i64 y.ft]) (by simp[aR]) rfl (λh3 e3 g3=>?_);conv=>whnf
  refine Bv g3 ([.slice z u.ak.length p,.slice A u.methods.length q]++aR M L N ⟨y.objs,y.fs,y.said,y.steps,1,w⟩++[.bool y.st,.int .i64 y.ft]) (by simp[aR]) rfl (λV e4 g4=>?_);conv=>whnf
  have I:=nV ⟨y.objs,y.fs,y.said,y.steps,1,w⟩ rfl rfl rfl;have e5:V=T.set e (.cells (([.slice z u.ak.length p,.slice A u.methods.length q]++aR M L N ⟨y.objs,y.fs,y.said,y.steps,1,w⟩++[.bool y.st,.int .i64 y.ft]:List Value)).toArray t2 (0,0)):=by rw[e4,e3,set_set]
  rw[<-e5,b]at I;exact⟨P,⟨I.1,s.un⟩,S.trans I.2⟩
 rw[List.concat_eq_append]at b;have jq:y.fs.length=d.length+1:=by rw[b];simp
 have F:y.fs.getLast? = some j:=by rw[b];simp
 have MK:y.fs.dropLast=d:=by rw[b];simp
 rw[F];simp only[MK];have C:=E j (by rw[b];simp);have OP:=hc _ (nH C.1);have OM:=C.2.1;have hgs:=C.2.2.2.1;rw[b]at D;have zz:XS h0 T e [.slice z u.ak.length p,.slice A u.methods.length q] u {y with fs:=d,f:=j} P:=⟨D,s.un⟩
 refine bZ ?_;conv=>whnf
 refine aB (jC zz (by show d.length<=1000;omega) (by show j.stack.length<=1000;omega) w) (λaa h3 v=>?_);refine v.elim λB3 Dx=>?_;have t:=Dx.1;have Gm:=S.trans Dx.2.1;have G:=yK {y with fs:=d,f:=j} w;generalize cT {y with fs:=d,f:=j} w=ab at t G ⊢;refine t.tp.elim λbf ht=>?_;have IB:ab.fs.length<=1000:=by rw[G.1];show d.length<=1000;omega
 have UO:=t.G4 ht;have Xz:=G.2.1;simp only at Xz;conv=>whnf
 refine au (pT t ht IB) ?_;conv=>whnf
 refine ld UO.1 ?_;conv=>whnf
 refine av ?_;conv=>whnf
 refine UO.2 _ _ (λV ML=>?_);conv=>whnf
 exact XE.trans Gm ML.Kc
def jF (u:aI) (n:Int) (M:cr) (b:Bool) (a:Int):cr × Bool × Int :=
 if (aM M.objs n).cls < 0\/up u.ak (aM M.objs n).cls 1=false then (M,true,a)else (dA u n M,b,a)
theorem wS {h0 h:Heap} {o:Nat} {us:List Value} {u:aI} {M:cr} {w:Bool} {p:Int} {B:List Nat} (C:XM h0 h o us u M w p B) (ok:bX u.ak) (n:Int) (V:0 < n/\n<=M.objs.length) (Ls:M.objs.length<=1000) (hl:M.aq.length<=1000)
  (hc : -2<=(aM M.objs n).cls/\(aM M.objs n).cls < u.ak.length) (LA:∀ g∈M.aq,0<=g.aG/\g.aG < u.methods.length) (G5:∀ m∈u.methods,∀ c∈m.catches,(0<=c.hi/\c.hi<=1000)/\0<=c.cls) :
  bq prog 130 [.pointer (some ⟨o,0,none⟩),.int .i64 n] h λ_ h'=>XE h0 h o us u B (jF u n M w p) h':=by
 obtain⟨_,_,_,_,_,E,A,X,R,rfl,r0,rm,_,hcs,lR⟩:=C.iP;obtain⟨bo,co,r1,r2⟩:=C.ma.mO V.1 V.2;have MM:(aM M.objs n).cls < 0\/up u.ak (aM M.objs n).cls 1=false->jF u n M w p=(M,true,p):=λa=>if_pos a;have Gj:¬((aM M.objs n).cls < 0\/up u.ak (aM M.objs n).cls 1=false)->jF u n M w p=(dA u n M,w,p):=λa=>if_neg a;have RY:rd h o 2=some (.slice (some ⟨bo,0,none⟩) M.objs.length co):=r1;have Kg:0<=(aM M.objs n).cls->Pure prog 86 [.slice E u.ak.length A,.int .i64 (aM M.objs n).cls,.int .i64 1] h (.bool (up u.ak (aM M.objs n).cls 1)):=λh0=>oH E u.ak.length A u.ak _ 1 h hcs ok O hc.2 O;refine bE ax func130 P8 U rfl ?_;conv=>whnf
 repeat' ((first|refine ld RY ?_|refine ld r2 ?_|refine ay ?_|refine av ?_|refine ptr ?_)<;>conv=>whnf)
 apply aC<;>intro g1;all_goals conv=>whnf
 ·refine C.stuck (λd q z e1=>?_);conv=>whnf
  rw[MM (.inl g1)];exact⟨B,q,z⟩
 repeat' ((first|refine ld r0 ?_|refine ay ?_|refine av ?_|refine ptr ?_)<;>conv=>whnf)
 refine au (Kg O) ?_;conv=>whnf
 apply dG<;>intro g2;all_goals conv=>whnf
 ·refine C.stuck (λd q z e1=>?_);conv=>whnf
  rw[MM (.inr g2)];exact⟨B,q,z⟩
 rw[Gj (by rw[g2];simp;omega)];refine eF [0,1,4] [] (λs:List cJ × Heap × List Nat=>XM h0 s.2.1 o [.slice E u.ak.length A,.slice X u.methods.length R] u {M with aq:=s.1} w p s.2.2/\Ev h s.2.1 (o::B) (o::s.2.2)/\dA u n {M with aq:=s.1}=dA u n M/\s.1.length<=1000/\∀ g∈s.1,0<=g.aG/\g.aG < u.methods.length) (λs=>s.1.length)
  (λs=>([.v (.pointer (some ⟨o,0,none⟩)),.v (.int .i64 n),.v (.int .i64 (aM M.objs n).cls)],[],s.2.1))
  (M.aq,h,B) ⟨C,Ev.refl _ _,rfl,hl,LA⟩ rfl ?_
 rintro⟨fs,d,B1⟩ ⟨q,z,v,si,Ki⟩;simp only at q z v si Ki ⊢;conv=>whnf
 obtain⟨_,_,_,⟨pf,cf,L⟩,_,p',XA,q',d',he,RM,XB,_,Ao,RZ⟩:=q.iP;simp only[List.cons.injEq,Z_,true_and,and_true]at he;obtain⟨⟨rfl,rfl⟩,rfl,rfl⟩:=he;replace L:rd d o 3=some (.slice pf fs.length cf):=L
 refine ld L ?_;conv=>whnf
 apply aC<;>intro g0;all_goals conv=>whnf
 ·obtain⟨b,g,rfl⟩:∃ b gl,fs=b++[gl]:=by
   rcases List.eq_nil_or_concat fs with rfl|⟨b,gl,rfl⟩
   ·simp at g0
   exact⟨b,gl,Z⟩
  have hg:=Ki g Z;have hlen:(b++[g]).length=b.length+1:=by simp
  have MN:XS h0 d o [.slice E u.ak.length A,.slice X u.methods.length R] u ⟨M.objs,b,g,M.said,M.steps,M.fin,M.out,w,p⟩ B1:=q;obtain⟨y,ht⟩:=MN.tp;have Ae:b.length<=1000:=by omega
  have sw:=pT MN ht Ae;simp only at sw;obtain⟨t,qq,r,v1,v2,Q,Bs,T,hq,o1,o2,nd,J2,uD,ne,nV⟩:=MN.lens ht;simp only at T hq o1 o2 nV;rw[oK]at v;have s0:rd d y (b.length*4)=some (.int .i64 g.aG):=cX T (i:=0) O rfl;have s1:rd d y (b.length*4+1)=some (.int .i64 g.pc):=cX T (i:=1) O rfl;have hi:g.aG.toNat < u.methods.length:=by omega
  have aa:=RZ.get hi;obtain⟨bb,oo,mcs,Cl,e1,e2⟩:=aa;have IN:bz u g.aG=u.methods[g.aG.toNat]:=gY hi O;have MO:=G5 _ (nH hg);obtain⟨p1,c1,p2,c2,p3,c3,p4,c4,e3,k1,k2,k3,k4,k5,k6,k7,k8,d1,d2,d3,d4⟩:=e2.form;subst e3;have s2:rd d bb (oo+g.aG.toNat*8+7)=some (.slice p4 (bz u g.aG).catches.length c4):=by rw[IN];exact aJ e1 (i:=7) rfl
  have MP:Row 4 zZ d (.slice p4 (bz u g.aG).catches.length c4) (bz u g.aG).catches:=by rw[IN];exact k8
  have d4':(bz u g.aG).catches.length<=140737488351232:=by rw[IN];exact d4
  refine au sw ?_;conv=>whnf
  repeat' ((first|refine ld XB ?_|refine ld s0 ?_|refine aL Cl ?_|refine ld s2 ?_|refine ay ?_|refine av ?_|refine ptr ?_)<;>conv=>whnf)
  refine eF [0,1,4,5,6,7] [] (λi:Nat=>i<=(bz u g.aG).catches.length/\∀ j (J:j < (bz u g.aG).catches.length),j < i->¬(((bz u g.aG).catches[j].lo<=g.pc/\g.pc < (bz u g.aG).catches[j].hi)/\up u.ak (aM M.objs n).cls (bz u g.aG).catches[j].cls=true)) (λi=>(bz u g.aG).catches.length-i)
   (λi=>([.v (.pointer (some ⟨o,0,none⟩)),.v (.int .i64 n),.v (.int .i64 (aM M.objs n).cls),.v (.pointer (some ⟨y,b.length*4,none⟩)),.v (.slice p4 (bz u g.aG).catches.length c4),.v (.int .i64 i)],[],d)) 0 ⟨O,λ_ _ a=>O⟩ rfl ?_
  rintro i ⟨hi4,OT⟩;conv=>whnf
  apply aC<;>intro g5;all_goals conv=>whnf
  ·have mC:i < (bz u g.aG).catches.length:=by omega
   have f:=MP.get mC;obtain⟨bc,oc,UP,G6,f1,f2,f3⟩:=f;subst f2;have XC:=MO _ (x_ mC);have c0:=aJ f1 (i:=0) rfl;have Mn:=aJ f1 (i:=1) rfl;have Mo:=aJ f1 (i:=2) rfl;have Gk:=aJ f1 (i:=3) rfl;have By:=oH E u.ak.length A u.ak (aM M.objs n).cls (bz u g.aG).catches[i].cls d Ao ok O hc.2 XC.2;have go:¬(((bz u g.aG).catches[i].lo<=g.pc/\g.pc < (bz u g.aG).catches[i].hi)/\up u.ak (aM M.objs n).cls (bz u g.aG).catches[i].cls=true)->∀ j (J:j < (bz u g.aG).catches.length),j < i+1->¬(((bz u g.aG).catches[j].lo<=g.pc/\g.pc < (bz u g.aG).catches[j].hi)/\up u.ak (aM M.objs n).cls (bz u g.aG).catches[j].cls=true):=by
    intro a j J GL;rcases Nat.lt_succ_iff_lt_or_eq.1 GL with G7|rfl
    ·exact OT j J G7
    exact a
   repeat' ((first|refine ld s1 ?_|refine aL G6 ?_|refine ld c0 ?_|refine ld Mn ?_|refine aP (dW _ _ _ _) ?_|refine ay ?_|refine av ?_|refine ptr ?_)<;>conv=>whnf)
   apply aC<;>intro g6;all_goals conv=>whnf
   ·repeat' ((first|refine ld RM ?_|refine aL G6 ?_|refine ld Gk ?_|refine aP By ?_|refine ay ?_|refine av ?_|refine ptr ?_)<;>conv=>whnf)
    apply fh<;>intro S;all_goals conv=>whnf
    ·have R0:kP u (aM M.objs n).cls g.pc (bz u g.aG).catches=some (bz u g.aG).catches[i]:=by
      rw[oL _ i OT,List.drop_eq_getElem_cons mC,kP,if_pos ⟨O,S⟩]
     rw[R0]at v;simp only at v;repeat' ((first|refine aL G6 ?_|refine ld Mo ?_|refine ay ?_|refine av ?_|refine ptr ?_)<;>conv=>whnf)
     refine qU T (i:=1) [.int .i64 g.aG,.int .i64 (bz u g.aG).catches[i].to,v1,v2] O Z rfl (λh2 D F=>?_);conv=>whnf
     refine au (jD _ _) ?_;conv=>whnf
     refine cZ [.bool true,.int .i64 n] rfl (λe h3 I Dx l3 MI=>?_);conv=>whnf
     have vr:d e=none:=by
      rw[D]at I;by_cases MQ:e=y
      ·subst MQ;simp[Heap.set]at I
      simpa [Heap.set,MQ]using I
     have R1:e≠y:=by rintro rfl;rw[F]at I;cases I
     refine qU (l3 _ _ F) (i:=3) [.int .i64 g.aG,.int .i64 (bz u g.aG).catches[i].to,v1,.slice (some ⟨e,0,none⟩) 1 1] O Z rfl (λh4 ML R2=>?_);have IP:∀ x,x≠y->x≠e->h4 x=d x:=by
      intro x K n2;rw[ML,Dx,D];simp[Heap.set,K,n2]
     have XD:h4 e=some (.cells [Value.bool true,.int .i64 n].toArray 31 (0,0)):=by
      rw[ML];simp only[Heap.set,R1,if_false];exact MI
     have R3:∀ x∈Q,x≠y/\x≠e:=λx a=>⟨(uD x (by simp[a])).1,by rintro rfl;obtain⟨ab,W⟩:=o1.in x a;rw[vr]at W;cases W⟩
     have Gn:=nV h4 {g with pc:=(bz u g.aG).catches[i].to,stack:=[⟨true,n⟩]} v1 (.slice (some ⟨e,0,none⟩) 1 1) Q [e] R2
      (λx a V=>by
       have K:x≠y:=λhy=>a (by simp[hy]);have n2:x≠e:=by rintro rfl;exact V vr
       exact IP x K n2)
      (o1.aK λx a ab W=>by rw[IP x (R3 x a).1 (R3 x a).2];exact W)
      (jV (t:=31) (by simp[dO]) rfl (by rw[XD];rfl))
      (λx a=>by
       rcases u_.1 a with a|a
       ·exact .inl (by simp[a])
       rw[V_.1 a];exact .inr vr)
      (by
       have K:Nd Q:=nd.less λY=>by simp only[Y_];omega
       intro Y;have:=K Y;simp only[Y_,X_,List.count_nil];by_cases ha:e=Y
       ·subst ha;have:Q.count e=0:=List.count_eq_zero.2 λa=>(R3 e a).2 rfl;simp[this]
       simp[ha];exact this)
     conv=>whnf
     rw[<-v];exact XE.trans z Gn.Kc
    refine av ?_;conv=>whnf
    refine cL (i+1) ⟨O,go (λa=>by rw[a.2]at S;cases S)⟩ O rfl
   refine av ?_;conv=>whnf
   refine cL (i+1) ⟨O,go (λa=>g6 ⟨a.1.1,O⟩)⟩ O rfl
  have R0:kP u (aM M.objs n).cls g.pc (bz u g.aG).catches=none:=by
   rw[oL _ (bz u g.aG).catches.length (λj J _=>OT j J O),List.drop_length];rfl
  rw[R0]at v;simp only at v;obtain⟨t',UQ,c',N,P,MR,CD,B2,H,G⟩:=q.ma.Mv (fs:=b) (f:=g) rfl;have MC:rd d o 3=some (.slice UQ (b.length+1) c'):=cX MR (i:=1) rfl rfl;rw[L]at MC;simp only[v_,Z_]at MC;obtain⟨rfl,_,rfl⟩:=MC;repeat' ((first|refine ld L ?_|refine ay ?_|refine av ?_|refine ptr ?_)<;>conv=>whnf)
  have R4:(((b++[g]).length:Int)-1).toNat=b.length:=by omega
  refine qU MR (i:=1) (aR N (.slice pf (((b++[g]).length:Int)-1).toNat cf) P {M with aq:=b++[g]}) rfl (by simp[aR]) rfl (λh2 D F=>?_);rw[R4]at D F;rw[<-D]at H G;conv=>whnf
  refine cL (b,h2,B2) ⟨⟨H,C.un⟩,z.trans G,v,by simp at si ⊢;omega,λx a=>Ki x (by simp[a])⟩ Z rfl
 have R5:fs=[]:=List.eq_nil_of_length_eq_zero (show fs.length=0 by simpa using g0);subst R5;obtain⟨t',N,R6,P,Io,_,_,_,hint⟩:=q.ma.ints;refine qU Io (i:=4) (aR N R6 P {M with aq:=[],fin:=2}) rfl (by simp[aR]) rfl (λh2 D F=>?_);conv=>whnf
 refine au (jD _ _) ?_;conv=>whnf
 refine Bv F ([.slice E u.ak.length A,.slice X u.methods.length R]++aR N R6 P {M with aq:=[],fin:=2,out:=⟨true,n⟩}++[.bool w,.int .i64 p]) (by simp[aR]) rfl (λh3 Dx MI=>?_);obtain⟨H,G⟩:=hint {M with aq:=[],fin:=2,out:=⟨true,n⟩} rfl rfl rfl;have MS:h3=d.set o (.cells (([.slice E u.ak.length A,.slice X u.methods.length R]++aR N R6 P {M with aq:=[],fin:=2,out:=⟨true,n⟩}++[.bool w,.int .i64 p]:List Value)).toArray t' (0,0)):=by
  rw[Dx,D,set_set]
 rw[<-MS]at H G;conv=>whnf
 rw[<-v];exact⟨B1,⟨H,C.un⟩,z.trans G⟩
theorem dL {sz:Nat} {h:Heap} {b:Nat} {t:TypeId} (a:h b=some (.cells #[] t (0,0))):bY sz h (.slice (some ⟨b,0,none⟩) 0 0) [] [b]:=⟨Z,.inr ⟨b,0,[],t,rfl,Z,by simpa using a,Z,rfl⟩⟩
theorem Ap (S:List Value) (u:aI) (k:Int) (a:List Vl) (v:Value) (h:Heap) (hu:dn h S u) (hk:0<=k/\k < u.methods.length) (I:pO h v a) (hl:a.length<=1000) (D8:(bz u k).locals<=1000) :
  bq prog 128 [.agg ⟨S⟩,.int .i64 k,v] h λf t=>h.le t/\∃ T V B1 d,f=.agg #[.int .i64 k,.int .i64 0,T,V]/\dx t T (gK u k a).locals B1/\dx t V [] d/\Nd (B1++d)/\∀ b∈B1++d,h b=none:=by
 obtain⟨ae,cc,af,aa,rfl,hcs,lR,jq,hl2⟩:=hu.form;have J:k.toNat < u.methods.length:=by omega
 have ab:=lR.get J;obtain⟨Y,oo,ms,Cl,e1,e2⟩:=ab;have IN:bz u k=u.methods[k.toNat]:=gY J O;obtain⟨p1,c1,p2,c2,p3,c3,p4,c4,e3,_⟩:=e2.form;subst e3;have r4:rd h Y (oo+k.toNat*8+4)=some (.int .i64 (bz u k).locals):=by rw[IN];exact aJ e1 (i:=4) rfl
 have hg0:=I;obtain⟨hg1,hg2,pg,cg,rfl,MI,OT⟩:=I;have hlen:=fj dO a;refine bE ax func128 P7 U rfl ?_;conv=>whnf
 refine cZ [] rfl (λX h1 vr UR N g1=>?_);conv=>whnf
 refine(hg0.le N).IC ?_;conv=>whnf
 refine dh (h0:=h) (xs:=[]) (ys:=a.map dO) (B:=[X]) (dL g1) (by simpa using vr) N rfl rfl (by simp[dO]) (jw a) rfl (by simp;omega) (by simp;omega) ?_;intro f h2 d M k2 k3 k4 k5;have z:dx h2 f a d:=by simpa using k2
 have hf:=z.form;obtain⟨R,F,rfl,_⟩:=hf;conv=>whnf
 refine cZ [] rfl (λc G x US P g3=>?_);have R7:h c=none:=by
  cases hh:h c with
  | none=>rfl
  | some Q=>rw[M c Q hh]at x;cases x
 have XF:c ∉ d:=λy=>by
  obtain⟨Q,L⟩:=z.in c y;rw[x]at L;cases L
 have K:(a.map dO).length=a.length+0:=by simp
 have R8:dx G (.slice R (a.length+0) F) (a++List.replicate 0 dy) d:=by
  rw[<-K];simpa using z.aK (cS.of_le P _)
 rw[K];conv=>whnf
 refine eF [1,3,6,7] [3,6,7] (λs:Nat × Heap × Option Addr × Nat × List Nat=>(s.1=0\/(a.length:Int)+s.1<=(bz u k).locals)/\h.le s.2.1/\dx s.2.1 (.slice s.2.2.1 (a.length+s.1) s.2.2.2.1) (a++List.replicate s.1 dy) s.2.2.2.2/\(∀ b∈s.2.2.2.2,h b=none)/\c ∉ s.2.2.2.2/\s.2.1 c=some (.cells #[] 31 (0,0))) (λs=>(bz u k).locals.toNat-(a.length+s.1))
  (λs=>([.v (.int .i64 k),.l 3 0,.l 6 0,.l 7 0],[some [.slice ae u.ak.length cc,.slice af u.methods.length aa],some [.int .i64 0,.int .i64 0,.slice none 0 0,.slice none 0 0],some [.int .i64 k,.int .i64 0,.slice s.2.2.1 (a.length+s.1) s.2.2.2.1,.slice (some ⟨c,0,none⟩) 0 0]],s.2.1))
  (0,G,R,F,d) ⟨.inl rfl,y_ M P,R8,k3,XF,g3⟩ rfl ?_
 rintro⟨j,h5,pp,ag,W⟩ ⟨hj,o,q,A,p,e⟩;simp only at hj o q A p e ⊢;have RL:=cW o r4;conv=>whnf
 repeat' ((first|refine aL Cl ?_|refine ld RL ?_|refine ay ?_|refine av ?_|refine ptr ?_)<;>conv=>whnf)
 apply aC<;>intro ad;all_goals conv=>whnf
 ·repeat' ((first|exact trivial|refine aP (kR _ _) ?_|apply T_)<;>conv=>whnf)
  all_goals
   have Ce:((a++List.replicate j dy).map dO).length=a.length+j:=by simp
   refine dh (h0:=h) (ys:=[dO dy]) q A o rfl rfl (by simp[dO]) rfl rfl (by simp;omega) (by simp;omega) ?_;intro f w D q1 q2 q3 q4 q5;have C:dx w f (a++List.replicate (j+1) dy) D:=by
    unfold dx;rw[List.replicate_succ',<-List.append_assoc,List.map_append];exact q2
   obtain⟨p',c',rfl,_⟩:=C.form;have Aj:((a++List.replicate (j+1) dy).map dO).length=a.length+(j+1):=by simp
   rw[Aj]at C ⊢;conv=>whnf
   refine cL (j+1,w,p',c',D) ⟨.inr O,q1,C,q3,λy=>?_,?_⟩ (by simp only;omega) rfl
   ·rcases q5 c y with m|m
    ·exact p m
    rw[e]at m;cases m
   show w c=_;rw[q4 c p (by rw[e];simp)];exact e
 have XG:j=(bz u k).locals.toNat-a.length:=by omega
 refine⟨o,_,_,W,[c],rfl,?_,dL e,?_,?_⟩
 ·unfold gK;rw[<-XG];exact q
 ·intro E;have:=q.nd E;simp only[Y_,X_,List.count_nil];by_cases H:c=E
  ·subst H;simp[List.count_eq_zero.2 p]
  simp[H];exact this
 intro b g;simp only[u_,V_]at g;rcases g with g|rfl
 ·exact A b g
 exact R7
def bG (u:aI) (x:dc):Int :=
 if x.kind=20 then (bz u x.a).args.length
 else if x.kind=21 then (if 0<=find u x.a x.b then (bz u (find u x.a x.b)).args.length+1 else -1)
 else -1
theorem rQ (A:List Value) (u:aI) (c a b:Int) (h:Heap) (y:dn h A u) (ok:bX u.ak) (F:c=20->0<=a/\a < u.methods.length) (G:c=21->0<=a/\a < u.ak.length) :
  Pure prog 83 [.agg ⟨A⟩,.agg #[.int .i64 c,.int .i64 a,.int .i64 b]] h (.int .i64 (bG u ⟨c,a,b⟩)):=by
 have z:=y;obtain⟨aa,R,M,S,rfl,T,I,X,Y⟩:=y.form;have args:∀ k:Int,0<=k->k < u.methods.length->∃ d e t m,M=some ⟨d,e,none⟩/\rd h d (e+k.toNat*8+2)=some (.slice t (bz u k).args.length m)/\(bz u k).args.length<=140737488351232:=by
  intro k V W;have w:k.toNat < u.methods.length:=by omega
  obtain⟨d,e,ms,J,C,D⟩:=I.get w;have x:bz u k=u.methods[k.toNat]:=gY w O;obtain⟨L,B,p2,N,p3,P,p4,Q,E,k1,k2,k3,k4,K,k6,k7,k8,d1,d2,d3,d4⟩:=D.form;subst E;exact⟨d,e,L,B,J,by rw[x];exact aJ C (i:=2) rfl,by rw[x];exact K.1⟩
 by_cases o:c=20
 ·subst o;have g:=F rfl;obtain⟨d,e,t,m,s,v,_⟩:=args a g.1 g.2;refine gF ax func83 Ml GD rfl ?_;conv=>whnf
  repeat' ((first|refine aL s ?_|refine ld v ?_|refine ay ?_|refine av ?_|refine ptr ?_)<;>conv=>whnf)
  exact⟨rfl,rfl⟩
 by_cases p:c=21
 ·subst p;have g:=G rfl;have H:=eD u a b;have j:bG u ⟨21,a,b⟩=if 0<=find u a b then ((bz u (find u a b)).args.length:Int)+1 else -1:=rfl
  by_cases f:0<=find u a b
  ·obtain⟨d,e,t,m,s,v,hle⟩:=args (find u a b) f H.2;rw[j,if_pos f];have q:=pL _ u a b h z ok O g.2;generalize find u a b=k at *;refine gF ax func83 Ml GD rfl ?_;conv=>whnf
   refine au q ?_;conv=>whnf
   refine fD f ?_;conv=>whnf
   repeat' ((first|refine aL s ?_|refine ld v ?_|refine ay ?_|refine av ?_|refine ptr ?_)<;>conv=>whnf)
   exact⟨rfl,rfl⟩
  rw[j,if_neg f];have q:=pL _ u a b h z ok O g.2;refine gF ax func83 Ml GD rfl ?_;conv=>whnf
  refine au q ?_;conv=>whnf
  refine cu f ?_;conv=>whnf
  exact⟨rfl,rfl⟩
 have j:bG u ⟨c,a,b⟩ = -1:=by simp[bG,o,p]
 rw[j];refine gF ax func83 Ml GD rfl ?_;conv=>whnf
 refine cu o ?_;conv=>whnf
 refine cu p ?_;conv=>whnf
 exact⟨rfl,rfl⟩
theorem XS.rest {h0 h:Heap} {g:Nat} {t:List Value} {u:aI} {x:Sx} {B:List Nat} {e:Nat} (w:XS h0 h g t u x B) (E:Tp h g x.fs.length e) (S:x.f.stack.length<=1000) {m:Nat} (Q:m<=x.f.stack.length) :
  ∃ c b,rd h e (x.fs.length*4+3)=some (.slice c (x.f.stack.map dO).length b)/\x.f.stack.length<=b/\(∀ d,(b≠m->d=c.map λa=>a.add (m*2))->(b=m->d=c)->pO h (.slice d ((x.f.stack.map dO).length-m) (b-m)) (x.f.stack.drop m)) /\
   ∀ K:Heap->Prop,(∀ p,XR h0 h g t u B {x with f:={x.f with stack:=x.f.stack.take m} } p->K p)->St h e (x.fs.length*4+3) [.slice c m b] K:=by
 obtain⟨V,T,r,L,c,b,o,z,R,j,N,I,J⟩:=w.cA E;have P:=fj dO x.f.stack;obtain⟨_,_,q,A⟩:=j.form;simp only[Z_]at q;obtain⟨_,_,rfl⟩:=q;refine⟨c,b,I,by simpa using A,λd F G=>?_,λK D=>?_⟩
 ·have:=bY.rest (sz:=2) j (l:=m) (by simp;omega) (by simp;omega) F G;rw[yz]at this;exact this
 have H:dx h (.slice c m b) (x.f.stack.take m) o:=by
  have:=bY.first (l:=m) j (by simp;omega);rw[<-List.map_take]at this;exact this
 have s:=(J h _ o (x.f.stack.take m) x.f.pc (λ_ _ _=>rfl) H (λM y=>.inl y)).2;refine qU z (i:=3) [.int .i64 x.f.aG,.int .i64 x.f.pc,L,.slice c m b] O Z rfl (λv C _=>?_);rw[<-C]at s;exact D v s
def gV (u:aI) (x:Sx) (i:dc):cr × Bool × Int :=
 if bG u i < 0\/(x.f.stack.length:Int) < bG u i then ({x with st:=true}:Sx).res
 else
  let a:=x.f.stack.drop (x.f.stack.length-(bG u i).toNat)
  let y:=if i.kind=21 then (if (a.getD 0 dy).ref=false then {x with st:=true}else aZ u x (a.getD 0 dy).n i.a)else x
  if i.kind=21/\y.bad then y.res
  else if x.fs.length+1=4 then (cj y 6).res
  else (⟨x.objs,x.fs++[{x.f with stack:=x.f.stack.take (x.f.stack.length-(bG u i).toNat)}]++[gK u (if i.kind=21 then find u (aM x.objs (a.getD 0 dy).n).cls i.b else i.a) a],x.said,x.steps,x.fin,x.out⟩,y.st,y.ft)
theorem XM.yA {h0 h:Heap} {d:Nat} {Q:List Value} {u:aI} {M:cr} {P:Bool} {F:Int} {B:List Nat} (e:XM h0 h d Q u M P F B) (J:M.aq.length<=1000) :
  ∃ p g,rd h d 3=some (.slice p M.aq.length g)/\∀(m:Heap),h.le m->∀ {bytes:Nat} {zero:List Value} {D:TypeId} {C:Nat} (a:cJ) (c:List Nat) (y:List Value) (K:Value->Heap->Prop),nU m y a c->Nd c->(∀ b∈c,h b=none)->C=1->y.length=4->dI y=true->zero.length=4->bytes<=1000 ->
   (∀ o f q,(∀ w:Heap->Prop,(∀ s,XE h0 h d Q u B ({M with aq:=M.aq++[a]},P,F) s->w s)->St q d 3 [.slice o (M.aq.length+1) f] w)->K (.slice o (M.aq.length+1) f) q)->App bytes 4 zero D m p M.aq.length g C y K:=by
 obtain⟨aa,p,g,vo,vs,H,_⟩:=e.ma.yA J;have v:=e.BB;refine⟨p,g,cX H (i:=1) (by rw[v]) rfl,λm A=>?_⟩;intro bytes zero D C a c y K Y k2 z k4 k5 k6 k7 k8 k9;have V:=e.ma.in;have hle:=e.ma.le;obtain⟨t',UQ,cf',XH,Lt,I,S⟩:=(e.mono A).1.ma.yA J;have j:rd m d 3=some (.slice p M.aq.length g):=cW A (cX H (i:=1) (by rw[v]) rfl);rw[cX I (i:=1) (by rw[v]) rfl]at j;simp only[v_,Z_,true_and]at j;obtain⟨rfl,rfl⟩:=j;refine S a c y K Y k2 (λb t=>⟨λX=>?_,?_⟩) k4 k5 k6 k7 k8 (λo f q j e2 e3 x=>k9 o f q (λw W=>?_))
 ·obtain⟨N,L⟩:=V b X;rw[z b t]at L;cases L
 ·cases x:h0 b with
  | none=>rfl
  | some N=>have:=z b t;rw[hle b N x]at this;cases this
 obtain⟨R,G,E⟩:=x;refine qU (j.trans I) (i:=1) (aR XH (.slice o (M.aq.length+1) f) Lt M) (by rw[v]) (by simp[aR]) rfl (λs T _=>?_);rw[<-T]at G E;exact W s ⟨R,⟨G,e.un⟩,(Ev.of_le A ((d::B)++c) (λb t=>(u_.1 t).imp id (z b))).trans E⟩
theorem jG {K:Value->Heap->Prop} {E:List PanicEntry->Heap->Prop} (j:List Value) (u:aI) (k:Int) (d:List Vl) (v:Value) (h:Heap) (C:dn h j u) (z:0<=k/\k < u.methods.length) (x:pO h v d) (A:d.length<=1000) (B:(bz u k).locals<=1000)
  (w:∀ a g o e i p f B1 c,h.le a->dx a (.slice g o e) (gK u k d).locals B1->dx a (.slice i p f) [] c->Nd (B1++c)->(∀ b∈B1++c,h b=none)->K (.agg #[.int .i64 k,.int .i64 0,.slice g o e,.slice i p f]) a) :
  gD prog 128 [.agg ⟨j⟩,.int .i64 k,v] h K E:=cP (Ap j u k d v h C z x A B) (λD a y=>by
 obtain⟨m,F,G,B1,c,rfl,q,s,nd,t⟩:=y;obtain⟨g,e,rfl,_⟩:=q.form;obtain⟨i,f,rfl,_⟩:=s.form;exact⟨m,w a _ _ _ _ _ _ B1 c m q s nd t⟩)
theorem yL {u:aI} {x:Sx} {a b:Int} (c:¬(bG u ⟨20,a,b⟩ < 0\/(x.f.stack.length:Int) < bG u ⟨20,a,b⟩)):gV u x ⟨20,a,b⟩ =
  if x.fs.length+1=4 then (cj x 6).res else (⟨x.objs,x.fs++[{x.f with stack:=x.f.stack.take (x.f.stack.length-(bG u ⟨20,a,b⟩).toNat)}]++[gK u a (x.f.stack.drop (x.f.stack.length-(bG u ⟨20,a,b⟩).toNat))],x.said,x.steps,x.fin,x.out⟩,x.st,x.ft):=by
 unfold gV;rw[if_neg c];simp
theorem yM {u:aI} {x:Sx} {a b:Int} (e:¬(bG u ⟨21,a,b⟩ < 0\/(x.f.stack.length:Int) < bG u ⟨21,a,b⟩)) {c:Vl} (f:(x.f.stack.drop (x.f.stack.length-(bG u ⟨21,a,b⟩).toNat)).getD 0 dy=c):gV u x ⟨21,a,b⟩ =
  if c.ref=false then ({x with st:=true}:Sx).res else if (aZ u x c.n a).bad then (aZ u x c.n a).res else if x.fs.length+1=4 then (cj (aZ u x c.n a) 6).res
  else (⟨x.objs,x.fs++[{x.f with stack:=x.f.stack.take (x.f.stack.length-(bG u ⟨21,a,b⟩).toNat)}]++[gK u (find u (aM x.objs c.n).cls b) (x.f.stack.drop (x.f.stack.length-(bG u ⟨21,a,b⟩).toNat))],x.said,x.steps,x.fin,x.out⟩,(aZ u x c.n a).st,(aZ u x c.n a).ft):=by
 unfold gV;rw[if_neg e];simp only[f];by_cases d:c.ref=false
 ·simp[d,Sx.bad]
 simp[d]
theorem CG {h0 h:Heap} {j:Nat} {us:List Value} {u:aI} {x:Sx} {B:List Nat} (d:XS h0 h j us u x B) (i:iQ u x) (hu:bS u) (a b:Int) (pS:x.st=false) (xK:x.ft=0)
  (H:0<=a/\a < u.methods.length) :
  bq prog 185 [.pointer (some ⟨j,0,none⟩),.agg #[.int .i64 20,.int .i64 a,.int .i64 b]] h λ_ h'=>XE h0 h j us u B (gV u x ⟨20,a,b⟩) h':=by
 have ok:=hu.1;obtain⟨bf,y⟩:=d.tp;have sw:=pT d y i.wQ;have UT:=i.jX.2.2.2.1;have Ly:=i.nf;obtain⟨r9,MD,_,_,_,P,A,R,C,rfl,r0,rm,S,hcs,lR⟩:=d.iP;have I:=rQ [.slice P u.ak.length A,.slice R u.methods.length C] u 20 a b h (d.un.le d.ma.le) ok (by exact λ_=>H) Z;have hlen:=fj dO x.f.stack;have oh:=d.ma.in;by_cases M:bG u ⟨20,a,b⟩ < 0\/(x.f.stack.length:Int) < bG u ⟨20,a,b⟩
 ·have g:gV u x ⟨20,a,b⟩=({x with st:=true}:Sx).res:=if_pos M;rw[g];generalize bG u ⟨20,a,b⟩=n at I M;obtain⟨Q,t,s,_⟩:=d.rest y i.uE (m:=0) O;refine bE ax func185 DU Bl rfl ?_;conv=>whnf
  refine au sw ?_;conv=>whnf
  repeat' ((first|refine dZ S ?_|refine aP I ?_|refine ay ?_|refine av ?_|refine ptr ?_)<;>conv=>whnf)
  apply aC<;>intro aa;all_goals conv=>whnf
  ·refine d.stuck (λe F D e1=>?_);conv=>whnf
   exact⟨B,F,D⟩
  refine ld s ?_;conv=>whnf
  refine dm ?_;conv=>whnf
  refine d.stuck (λe F D e1=>?_);conv=>whnf
  exact⟨B,F,D⟩
 have g:=yL M;generalize bG u ⟨20,a,b⟩=n at *;have UL:0<=n/\n<=x.f.stack.length:=by omega
 obtain⟨m,hm⟩:∃ m,m=x.f.stack.length-n.toNat:=⟨_,rfl⟩
 rw[<-hm]at g;generalize gV u x ⟨20,a,b⟩=res at g ⊢;obtain⟨Q,t,s,G8,EE,_⟩:=d.rest y i.uE (m:=m) O;have J:(((x.f.stack.map dO).length:Int)-n).toNat=m:=by omega
 have Ae:(x.f.stack.drop m).length=n.toNat:=by simp;omega
 have hz:∀(e:Heap) (f:Option Addr),h.le e->(t≠(((x.f.stack.map dO).length:Int)-n).toNat->f=Q.map λa=>a.add ((((x.f.stack.map dO).length:Int)-n).toNat*2))->(t=(((x.f.stack.map dO).length:Int)-n).toNat->f=Q) ->
   pO e (.slice f ((x.f.stack.map dO).length-(((x.f.stack.map dO).length:Int)-n).toNat) (t-m)) (x.f.stack.drop m):=by
  rw[J];exact λe f q p z=>(EE f p z).le q
 refine bE ax func185 DU Bl rfl ?_;conv=>whnf
 refine au sw ?_;conv=>whnf
 repeat' ((first|refine dZ S ?_|refine aP I ?_|refine ay ?_|refine av ?_|refine ptr ?_)<;>conv=>whnf)
 refine bZ ?_;conv=>whnf
 refine ld s ?_;conv=>whnf
 refine bZ ?_;conv=>whnf
 have hsz:(List.map dO x.f.stack).length-(((List.map dO x.f.stack).length:Int)-n).toNat=((x.f.stack.drop m).map dO).length:=by simp;omega
 repeat' ((first|exact trivial|apply T_|refine ld s ?_|refine ld (cW q s) ?_|refine ay ?_|refine av ?_|refine cZ [] rfl (λb1 e vr UR q g1=>?_)|refine Go.Proofs.sub (λf q1 q2=>?_))<;>conv=>whnf)
 all_goals
  refine ju.IC (hz e f q q1 q2) ?_;conv=>whnf
  refine dh (h0:=h) (xs:=[]) (ys:=(x.f.stack.drop m).map dO) (B:=[b1]) (dL g1) (by simpa using vr) q rfl hsz (λaf hy=>by obtain⟨ae,_,rfl⟩:=List.mem_map.1 hy;rfl) (jw _) rfl (by simp;omega) (by simp;omega) ?_;intro v' E W p z k3 k4 k5;have Kj:dx E v' (x.f.stack.drop m) W:=by rw[List.nil_append]at z;exact z
  have hf:=Kj.form;obtain⟨pg,cg,rfl,_⟩:=hf;conv=>whnf
  have N:=d.mono p;have zz:XS h0 E j [.slice P u.ak.length A,.slice R u.methods.length C] u x B:=N.1;have IQ:Tp E j x.fs.length bf:=by obtain⟨c0,q0⟩:=y;exact⟨c0,cW p q0⟩
  have R9:=dD p S;refine IQ.elim λcf MT=>?_;refine ld MT ?_;conv=>whnf
  apply aC<;>intro gf;all_goals conv=>whnf
  ·refine aB (iq zz 6) (λad v w=>?_);conv=>whnf
   rw[g,if_pos O];exact XE.trans N.2.1 w.Kc
  refine(zz.rest IQ i.uE (m:=m) O).elim λp3 c=>c.elim λc3 c=>?_;have w3:=c.1;have wc:=c.2.1;have MU:=c.2.2.2;rw[<-J]at MU;repeat' ((first|exact trivial|apply T_|refine ld w3 ?_|refine ay ?_|refine av ?_)<;>conv=>whnf)
  all_goals
   refine MU _ (λv w=>?_);rw[J]at w;refine w.elim λB3 L=>?_;have G:=L.1;have Gm:=N.2.1.trans L.2.1;refine(XM.yA G (show(x.fs++[_]).length<=1000 by simp;omega)).elim λpf K=>K.elim λXI K=>K.elim λEF grow=>?_;have Kk:=G.iP.2.2.2.2.2;refine Kk.elim λpa c=>c.elim λca c=>c.elim λqa c=>c.elim λda c=>?_;have o:=c.1;simp only[List.cons.injEq,Z_,true_and,and_true]at o;have MV:=o.1.1;have MW:=o.1.2;have Gp:=o.2.1;have MX:=o.2.2;subst MV MW Gp MX;have EG:=c.2.2.2.1;have Sa:dx v (.slice pg ((x.f.stack.drop m).map dO).length cg) (x.f.stack.drop m) W:=Kj.aK λb hb ab ho=>by
    rw[L.2.1.sr b (by rw[ho];simp) (λhx=>?_)]
    ·exact ho
    obtain⟨o2,UU⟩:=oh b hx;rw[k3 b hb]at UU;cases UU
   have Sb:∀ {Y:Value->Heap->Prop} {X:List PanicEntry->Heap->Prop},_->gD prog 128 [.agg #[.slice P u.ak.length A,.slice R u.methods.length C],.int .i64 (a),.slice pg ((x.f.stack.drop m).map dO).length cg] v Y X:=λ{Y X} hK=>jG _ u (a) (x.f.stack.drop m) _ v (d.un.le G.ma.le) H (Sa.read (by simp;omega)) O (by have:=(hu.bz H).1.2.2.2.2.1;omega) hK;conv=>whnf
   repeat' ((first|exact trivial|apply T_|refine dZ EG ?_|refine ld EF ?_|refine ld (cW l4 EF) ?_|refine Sb (λh4 p5 n5 c5 p6 n6 c6 T V l4 o5 o6 Sc f56=>?_))<;>conv=>whnf)
   all_goals
    refine grow h4 l4 (gK u (a) (x.f.stack.drop m)) (T++V) _ _ ⟨_,_,T,V,rfl,o5,o6,rfl⟩ Sc f56 rfl rfl rfl rfl Z (λp' c' h5 Kl=>?_);conv=>whnf
    refine Kl _ (λh6 Sd=>?_);conv=>whnf
    rw[g,if_neg O];exact XE.trans Gm Sd
theorem CH {h0 h:Heap} {y:Nat} {us:List Value} {u:aI} {x:Sx} {B:List Nat} (f:XS h0 h y us u x B) (p:iQ u x) (hu:bS u) (a b:Int) (pS:x.st=false) (xK:x.ft=0)
  (ha:0<=a/\a < u.ak.length) (hsend:0<=find u a b->∀ c:Int,c < u.ak.length->up u.ak c a=true->0<=find u c b) :
  bq prog 185 [.pointer (some ⟨y,0,none⟩),.agg #[.int .i64 21,.int .i64 a,.int .i64 b]] h λ_ h'=>XE h0 h y us u B (gV u x ⟨21,a,b⟩) h':=by
 have ok:=hu.1;obtain⟨bf,ht⟩:=f.tp;have sw:=pT f ht p.wQ;have UT:=p.jX.2.2.2.1;have Ly:=p.nf;obtain⟨P,M,_,_,_,aa,S,ab,T,rfl,r0,rm,Se,hcs,lR⟩:=f.iP;have Sf:=rQ [.slice aa u.ak.length S,.slice ab u.methods.length T] u 21 a b h (f.un.le f.ma.le) ok Z (by exact λ_=>ha);have hlen:=fj dO x.f.stack;have oh:=f.ma.in;by_cases E:bG u ⟨21,a,b⟩ < 0\/(x.f.stack.length:Int) < bG u ⟨21,a,b⟩
 ·have q:gV u x ⟨21,a,b⟩=({x with st:=true}:Sx).res:=if_pos E;rw[q];generalize bG u ⟨21,a,b⟩=n at Sf E;obtain⟨p2,R,N,_⟩:=f.rest ht p.uE (m:=0) O;refine bE ax func185 DU Bl rfl ?_;conv=>whnf
  refine au sw ?_;conv=>whnf
  repeat' ((first|refine dZ Se ?_|refine aP Sf ?_|refine ay ?_|refine av ?_|refine ptr ?_)<;>conv=>whnf)
  apply aC<;>intro W;all_goals conv=>whnf
  ·refine f.stuck (λz G1 Lw e1=>?_);conv=>whnf
   exact⟨B,G1,Lw⟩
  refine ld N ?_;conv=>whnf
  refine dm ?_;conv=>whnf
  refine f.stuck (λz G1 Lw e1=>?_);conv=>whnf
  exact⟨B,G1,Lw⟩
 have Km:bG u ⟨21,a,b⟩=if 0<=find u a b then ((bz u (find u a b)).args.length:Int)+1 else -1:=rfl
 have UW:0<=find u a b:=by
  rw[Km]at E;split at E
  ·assumption
  simp at E
 have UX:1<=bG u ⟨21,a,b⟩:=by
  rw[Km,if_pos UW];omega
 clear Km;obtain⟨e,hv0⟩:∃ e,(x.f.stack.drop (x.f.stack.length-(bG u ⟨21,a,b⟩).toNat)).getD 0 dy=e:=⟨_,rfl⟩
 have q:=yM E hv0;generalize bG u ⟨21,a,b⟩=n at *;have UL:0<=n/\n<=x.f.stack.length:=by omega
 obtain⟨m,hm⟩:∃ m,m=x.f.stack.length-n.toNat:=⟨_,rfl⟩
 rw[<-hm]at q hv0;generalize gV u x ⟨21,a,b⟩=res at q ⊢;obtain⟨p2,R,N,G8,EE,_⟩:=f.rest ht p.uE (m:=m) O;have MO:(((x.f.stack.map dO).length:Int)-n).toNat=m:=by omega
 have Ae:(x.f.stack.drop m).length=n.toNat:=by simp;omega
 have hg0:0 < (x.f.stack.drop m).length:=by omega
 have LB:(x.f.stack.drop m)[0]=e:=by rw[<-hv0,wJ hg0]
 have Sg:e∈x.f.stack:=by
  rw[<-LB];exact List.mem_of_mem_drop (x_ _)
 have Sh:=p.jX.2.2.2.2.2 e Sg;have hol:=p.len.2;have hz:∀(z:Heap) (A:Option Addr),h.le z->(R≠(((x.f.stack.map dO).length:Int)-n).toNat->A=p2.map λa=>a.add ((((x.f.stack.map dO).length:Int)-n).toNat*2))->(R=(((x.f.stack.map dO).length:Int)-n).toNat->A=p2) ->
   pO z (.slice A ((x.f.stack.map dO).length-(((x.f.stack.map dO).length:Int)-n).toNat) (R-m)) (x.f.stack.drop m):=by
  rw[MO];exact λz A L K k2=>(EE A K k2).le L
 refine bE ax func185 DU Bl rfl ?_;conv=>whnf
 refine au sw ?_;conv=>whnf
 repeat' ((first|refine dZ Se ?_|refine aP Sf ?_|refine ay ?_|refine av ?_|refine ptr ?_)<;>conv=>whnf)
 refine bZ ?_;conv=>whnf
 refine ld N ?_;conv=>whnf
 refine bZ ?_;conv=>whnf
 have hsz:(List.map dO x.f.stack).length-(((List.map dO x.f.stack).length:Int)-n).toNat=((x.f.stack.drop m).map dO).length:=by simp;omega
 repeat' ((first|exact trivial|apply T_|refine ld N ?_|refine ld (cW L N) ?_|refine ay ?_|refine av ?_|refine cZ [] rfl (λb1 z vr UR L g1=>?_)|refine Go.Proofs.sub (λA q1 q2=>?_))<;>conv=>whnf)
 all_goals
  refine ju.IC (hz z A L q1 q2) ?_;conv=>whnf
  refine dh (h0:=h) (xs:=[]) (ys:=(x.f.stack.drop m).map dO) (B:=[b1]) (dL g1) (by simpa using vr) L rfl hsz (λai J=>by obtain⟨ah,_,rfl⟩:=List.mem_map.1 J;rfl) (jw _) rfl (by simp;omega) (by simp;omega) ?_;intro v' C Q K k2 k3 k4 k5;have Kj:dx C v' (x.f.stack.drop m) Q:=by rw[List.nil_append]at k2;exact k2
  have hf:=Kj.form;obtain⟨pg,cg,rfl,_⟩:=hf;conv=>whnf
  have Si:=f.mono K;have zz:XS h0 C y [.slice aa u.ak.length S,.slice ab u.methods.length T] u x B:=Si.1;have IQ:Tp C y x.fs.length bf:=by obtain⟨c0,q0⟩:=ht;exact⟨c0,cW K q0⟩
  have R9:=dD K Se;refine(Kj.two hg0).elim λbg UY=>?_;have XJ:=UY.1;subst XJ;have Kn:=UY.2.1;rw[LB]at Kn;have w0:=aJ Kn (i:=0) rfl;have w1:=aJ Kn (i:=1) rfl;have XK:((x.f.stack.drop m).map dO).length=(x.f.stack.drop m).length:=by simp
  repeat' ((first|refine ld w0 ?_|refine ay ?_|refine av ?_|refine ptr ?_)<;>conv=>whnf)
  apply dG<;>intro X;all_goals conv=>whnf
  ·refine zz.stuck (λF G Gm e3=>?_);conv=>whnf
   rw[q,if_pos X];exact⟨B,G,Si.2.1.trans Gm⟩
  have OU:¬e.ref=false:=by rw[X];simp
  have Ko:=Sh.1 X;repeat' ((first|exact trivial|apply T_|refine ld w1 ?_|refine ay ?_|refine ptr ?_)<;>conv=>whnf)
  all_goals
   refine aB (pW zz p ok e.n a Ko O) (λag Sj t=>?_);refine t.2.1.elim λbn hv=>hv.elim λon hv=>?_;subst hv;refine t.1.elim λSk Y=>?_;have g:=Y.1;have jE:=t.2.2;have V:=Si.2.1.trans Y.2.1;have MY:=Y.2.1;have XL:=Y.2.2;by_cases s:(aZ u x e.n a).bad
   ·have P:=g.iP.1;have M:=g.iP.2.1;conv=>whnf
    refine ld P ?_;conv=>whnf
    apply fh<;>intro W;all_goals conv=>whnf
    ·rw[q,if_neg OU,if_pos s];exact⟨Sk,g,V⟩
    refine ld M ?_;conv=>whnf
    refine fD (s.resolve_left (by rw[W];simp)) ?_;conv=>whnf
    rw[q,if_neg OU,if_pos s];exact⟨Sk,g,V⟩
   have j:=jE s;have IS:=j.1;have zy:=j.2.1;have Ju:=iB p s;refine j.2.2.elim λbo j=>j.elim λco j=>?_;have Aq:=j.1;have hp:=j.2;simp only[Value.pointer.injEq,v_,Addr.mk.injEq,and_true]at hp;have BC:=hp.1;have Dw:=hp.2;subst BC;subst Dw;rw[zy]at g s q;have su:0<=(aM x.objs e.n).cls/\up u.ak (aM x.objs e.n).cls a=true:=by
    unfold eR at Ju;simp at Ju;exact Ju.2 ha.1
   have hO:=p.uF _ (fO (objs:=x.objs) IS Ko.2);have MZ:(aM x.objs e.n).cls < u.ak.length:=by
    rcases hO.2 with ⟨C,_⟩|⟨_,C,_⟩
    ·omega
    exact C
   refine(g.mO IS Ko.2).elim λOQ w=>w.elim λOR w=>w.elim λvv w=>w.elim λBi w=>?_;have Kq:=w.1;rw[Aq]at Kq;simp only[v_,Z_,Addr.mk.injEq,and_true,true_and]at Kq;have sG:=Kq.1;subst sG;have q3:=w.2.1;have P:=g.iP.1;have M:=g.iP.2.1;rw[pS]at P;rw[xK]at M;have XN:=f.un.le g.ma.le;have Sl:=pL [.slice aa u.ak.length S,.slice ab u.methods.length T] u (aM x.objs e.n).cls b Sj XN ok O MZ;have OO:0<=find u (aM x.objs e.n).cls b/\find u (aM x.objs e.n).cls b < u.methods.length:=⟨hsend UW _ MZ su.2,(eD u _ _).2⟩
   have Sm:=g.iP.2.2.2.2.2;refine Sm.elim λpa d=>d.elim λca d=>d.elim λqa d=>d.elim λda d=>?_;have o:=d.1;simp only[List.cons.injEq,Z_,true_and,and_true]at o;have MV:=o.1.1;have MW:=o.1.2;have Gp:=o.2.1;have MX:=o.2.2;subst MV MW Gp MX;have M0:=d.2.2.2.1;generalize (aM x.objs e.n).cls=cl at *;generalize hkg:find u cl b=kk at *;conv=>whnf
   repeat' ((first|refine ld P ?_|refine ld M ?_|refine ay ?_|refine av ?_|refine ptr ?_)<;>conv=>whnf)
   repeat' ((first|exact trivial|apply T_|refine dZ M0 ?_|refine ld q3 ?_|refine aP Sl ?_)<;>conv=>whnf)
   all_goals
    have M1:Tp Sj y x.fs.length bf:=by obtain⟨c0,q0⟩:=IQ;exact⟨c0,by rw[XL];exact q0⟩
    have Sn:dx Sj (.slice (some ⟨bg,0,none⟩) ((x.f.stack.drop m).map dO).length cg) (x.f.stack.drop m) Q:=Kj.aK λb D af H=>by
     rw[MY.sr b (by rw[H];simp) (λI=>by obtain⟨o2,v⟩:=oh b I;rw[k3 b D]at v;cases v)];exact H
    have So:∀ b∈Q,b ∉ y::Sk:=λb D I=>by
     rcases MY.new b I with J|J
     ·obtain⟨o2,v⟩:=oh b J;rw[k3 b D]at v;cases v
     obtain⟨o2,v⟩:=Kj.in b D;rw[J]at v;cases v
    refine M1.elim λcf MT=>?_;refine ld MT ?_;conv=>whnf
    apply aC<;>intro gf;all_goals conv=>whnf
    ·refine aB (iq g 6) (λag F t=>?_);conv=>whnf
     rw[q,if_neg OU,if_neg s,if_pos O];exact XE.trans V t.Kc
    refine(g.rest M1 p.uE (m:=m) O).elim λp3 d=>d.elim λc3 d=>?_;have w3:=d.1;have wc:=d.2.1;have MU:=d.2.2.2;rw[<-MO]at MU;repeat' ((first|exact trivial|apply T_|refine ld w3 ?_|refine ay ?_|refine av ?_)<;>conv=>whnf)
    all_goals
     refine MU _ (λF t=>?_);rw[MO]at t;refine t.elim λB3 Dx=>?_;have G:=Dx.1;have Gm:=V.trans Dx.2.1;refine(XM.yA G (show(x.fs++[_]).length<=1000 by simp;omega)).elim λpf j=>j.elim λXI j=>j.elim λEF grow=>?_;have Kk:=G.iP.2.2.2.2.2;refine Kk.elim λpa d=>d.elim λca d=>d.elim λqa d=>d.elim λda d=>?_;have o:=d.1;simp only[List.cons.injEq,Z_,true_and,and_true]at o;have MV:=o.1.1;have MW:=o.1.2;have Gp:=o.2.1;have MX:=o.2.2;subst MV MW Gp MX;have EG:=d.2.2.2.1;have Sa:dx F (.slice (some ⟨bg,0,none⟩) ((x.f.stack.drop m).map dO).length cg) (x.f.stack.drop m) Q:=Sn.aK λb D af H=>by
      rw[Dx.2.1.sr b (by rw[H];simp) (λI=>?_)]
      ·exact H
      exact So b D I
     have Sb:∀ {ae:Value->Heap->Prop} {ad:List PanicEntry->Heap->Prop},_->gD prog 128 [.agg #[.slice aa u.ak.length S,.slice ab u.methods.length T],.int .i64 kk,.slice (some ⟨bg,0,none⟩) ((x.f.stack.drop m).map dO).length cg] F ae ad:=λ{ae ad} hK=>jG _ u kk (x.f.stack.drop m) _ F (f.un.le G.ma.le) OO (Sa.read (by simp;omega)) O (by have:=(hu.bz OO).1.2.2.2.2.1;omega) hK;conv=>whnf
     repeat' ((first|exact trivial|apply T_|refine dZ EG ?_|refine ld EF ?_|refine ld (cW l4 EF) ?_|refine Sb (λh4 p5 n5 c5 p6 n6 c6 B5 B6 l4 o5 o6 Sc f56=>?_))<;>conv=>whnf)
     all_goals
      refine grow h4 l4 (gK u kk (x.f.stack.drop m)) (B5++B6) _ _ ⟨_,_,B5,B6,rfl,o5,o6,rfl⟩ Sc f56 rfl rfl rfl rfl Z (λp' c' h5 Kl=>?_);conv=>whnf
      refine Kl _ (λh6 Sd=>?_);conv=>whnf
      rw[q,if_neg OU,if_neg s,if_neg O];exact XE.trans Gm Sd
def Kp (x y:Sx):Prop:=y.fs=x.fs/\y.f.pc=x.f.pc/\y.f.aG=x.f.aG
theorem Kp.refl (x:Sx):Kp x x:=⟨rfl,rfl,rfl⟩
theorem Kp.trans {x y z:Sx} (a:Kp x y) (b:Kp y z):Kp x z:=⟨b.1.trans a.1,b.2.1.trans a.2.1,b.2.2.trans a.2.2⟩
theorem oP (x:Sx):Kp x (aU x).2:=by unfold aU;split<;>exact⟨rfl,rfl,rfl⟩
theorem fP (x:Sx):Kp x (aD x).2:=by unfold aD;split<;>exact oP x
theorem iK (x:Sx):Kp x (aE x).2:=by unfold aE;split<;>exact oP x
theorem gM (x:Sx) (v:Vl):Kp x (cT x v):=yK x v
theorem jH (x:Sx) (k:Int):Kp x (cj x k):=by unfold cj;split<;>exact⟨rfl,rfl,rfl⟩
theorem pY (u:aI) (x:Sx) (n k:Int):Kp x (aZ u x n k):=by
 unfold aZ;split
 ·exact Kp.refl x
 split
 ·exact jH x 2
 split<;>exact⟨rfl,rfl,rfl⟩
theorem wT (x:Sx) (o:Ob):Kp x (gH x o):=by
 unfold gH;split
 ·exact Kp.refl x
 exact(show Kp x {x with objs:=x.objs++[o]}from⟨rfl,rfl,rfl⟩).trans (gM _ _)
theorem M3 (x:Sx) (a:Int):Kp x (Ez x a):=by
 unfold Ez;simp only;split
 ·exact((fP x).trans (fP _)).trans (gM _ _)
 exact((fP x).trans (fP _)).trans (jH _ _)
theorem EH (x:Sx) (k:Int):Kp x (ko x k):=by
 unfold ko;split
 ·exact(fP x).trans (wT _ _)
 exact((fP x).trans (jH _ _)).trans (wT _ _)
theorem G9 (x:Sx):Kp x (oq x):=by
 unfold oq;simp only;split
 ·exact iK x
 split
 ·exact(iK x).trans (jH _ _)
 exact(iK x).trans (gM _ _)
theorem BD (u:aI) (x:Sx) (k:Int) (s:Bool):Kp x (pU u x k s):=by
 cases s
 ·have a:=((fP x).trans (iK _)).trans (pY u _ (aE (aD x).2).1 (-1-k));unfold pU;simp only[Bool.false_eq_true,if_false];split
  ·exact a
  split
  ·exact a.trans (jH _ _)
  exact a.trans (gM _ _)
 have a:=(((oP x).trans (fP _)).trans (iK _)).trans (pY u _ (aE (aD (aU x).2).2).1 (-1-k));unfold pU;simp only[if_true];split
 ·exact a
 split
 ·exact a.trans (jH _ _)
 exact a.trans ⟨rfl,rfl,rfl⟩
theorem yN (u:aI) (x:Sx) (k i:Int) (s:Bool):Kp x (lY u x k i s):=by
 cases s
 ·have a:=(iK x).trans (pY u _ (aE x).1 k);unfold lY;simp only[Bool.false_eq_true,if_false];split
  ·exact a
  exact a.trans (gM _ _)
 have a:=((oP x).trans (iK _)).trans (pY u _ (aE (aU x).2).1 k);unfold lY;simp only[if_true];split
 ·exact a
 exact a.trans ⟨rfl,rfl,rfl⟩
theorem He (u:aI) (x:Sx) (k:Int):Kp x (ox u x k):=by
 unfold ox;simp only;split
 ·exact iK x
 split
 ·exact(iK x).trans (jH _ _)
 exact(iK x).trans (gM _ _)
theorem EI (x:Sx) (i:dc):Kp x (eK x i):=by
 unfold eK;split
 ·exact gM _ _
 split
 ·exact gM _ _
 split
 ·exact gM _ _
 split
 ·exact oP x
 split
 ·exact oP x
 split
 ·exact((oP x).trans (gM _ _)).trans (gM _ _)
 split
 ·exact M3 _ _
 split
 ·split<;>exact fP x
 exact Kp.refl x
theorem Hf (u:aI) (x:Sx) (i:dc):Kp x (fG u x i):=by
 unfold fG;split
 ·exact wT _ _
 split
 ·exact EH _ _
 split
 ·exact G9 _
 split
 ·exact BD _ _ _ _
 split
 ·exact BD _ _ _ _
 split
 ·exact yN _ _ _ _ _
 split
 ·exact yN _ _ _ _ _
 split
 ·exact He _ _ _
 exact Kp.refl x
theorem EJ (x:Sx) (i:dc):Kp x (er x i).2:=by
 unfold er;split
 ·exact(fP x).trans (fP _)
 split
 ·exact(fP x).trans (fP _)
 split
 ·exact iK x
 exact Kp.refl x
theorem Hg {h0 h:Heap} {d:Nat} {e:List Value} {u:aI} {x:Sx} {B:List Nat} (g:XS h0 h d e u x B) (c a b:Int) (j:c < 12\/19 < c) :
  bq prog 191 [.pointer (some ⟨d,0,none⟩),.agg #[.int .i64 c,.int .i64 a,.int .i64 b]] h λ_ f=>XR h0 h d e u B (fG u x ⟨c,a,b⟩) f:=by
 have i:fG u x ⟨c,a,b⟩=x:=by
  unfold fG;simp only;repeat rw[if_neg O]
 rw[i];refine bE ax func191 JJ Is rfl ?_;conv=>whnf
 repeat' ((first|refine bZ ?_)<;>conv=>whnf)
 exact⟨B,g,Ev.refl _ _,rfl⟩
def eV (x:Sx):Sx:={x with f:={x.f with pc:=x.f.pc+1} }
def tR (u:aI) (x:Sx) (i:dc):cr × Bool × Int :=
 if i.kind=22 then rP x
 else if i.kind=20\/i.kind=21 then gV u x i
 else if i.kind=23 then (if (aE x).1=0 then (cj (aE x).2 2).res else if (aE x).2.st=false then jF u (aE x).1 (aE x).2.wO (aE x).2.st (aE x).2.ft else (aE x).2.res)
 else if 8<=i.kind/\i.kind<=11 then (if (er (eV x) i).1=true then ({ (er (eV x) i).2 with f:={ (er (eV x) i).2.f with pc:=i.a} }:Sx).res else (er (eV x) i).2.res)
 else (eV (fG u (eK x i) i)).res
theorem iQ.bump {u:aI} {x:Sx} (h:iQ u x) (m:x.f.pc < (bz u x.f.aG).code.length):iQ u (eV x):=by
 obtain⟨a,b,c,⟨e,o,f,g,i,j⟩,d⟩:=h;exact⟨a,b,c,⟨e,⟨by show 0<=x.f.pc+1;omega,by show x.f.pc+1<=((bz u x.f.aG).code.length:Int);omega⟩,f,g,i,j⟩,d⟩
structure M4 (u:aI) (x:Sx):Prop where
 ok:iQ u x
 fs:∀ g∈x.fs,tM u x.objs.length g
 st:x.st=false
 ft:x.ft=0
 pc:x.f.pc < (bz u x.f.aG).code.length
 said:x.said.length<=300
theorem Ks {h0 h:Heap} {t:Nat} {M:List Value} {u:aI} {x:Sx} {B:List Nat} (v:XS h0 h t M u x B) (g:M4 u x) (F:bS u) (c a b:Int) (K:dw u (bz u x.f.aG) ⟨c,a,b⟩) :
  bq prog 129 [.pointer (some ⟨t,0,none⟩),.agg #[.int .i64 c,.int .i64 a,.int .i64 b]] h λ_ T=>XE h0 h t M u B (tR u x ⟨c,a,b⟩) T:=by
 obtain⟨g,LA,pS,xK,OM,IL⟩:=g;have ok:=F.1;have UF:=F.bz g.jX.1;have su:∀ G∈u.methods,G.code.length<=1000:=λG X=>by have:=(F.2.2.2.1 G X).2.1.2.1;omega
 have XO:=g.jX.2.1;have XP:=su _ (nH g.jX.1);have e:tR u x ⟨c,a,b⟩=if c=22 then rP x
  else if c=20\/c=21 then gV u x ⟨c,a,b⟩
  else if c=23 then (if (aE x).1=0 then (cj (aE x).2 2).res else if (aE x).2.st=false then jF u (aE x).1 (aE x).2.wO (aE x).2.st (aE x).2.ft else (aE x).2.res)
  else if 8<=c/\c<=11 then (if (er (eV x) ⟨c,a,b⟩).1=true then ({ (er (eV x) ⟨c,a,b⟩).2 with f:={ (er (eV x) ⟨c,a,b⟩).2.f with pc:=a} }:Sx).res else (er (eV x) ⟨c,a,b⟩).2.res)
  else (eV (fG u (eK x ⟨c,a,b⟩) ⟨c,a,b⟩)).res:=rfl
 generalize tR u x ⟨c,a,b⟩=res at e ⊢;by_cases R:c=22
 ·subst R;refine bE ax func129 zY vg rfl ?_;conv=>whnf
  refine aB (Ke v g LA su) (λz j d=>?_);conv=>whnf
  rw[e];exact d
 rw[if_neg R]at e;by_cases JZ:c=20
 ·subst JZ;have:=(aS (p:=7) (q:=0) rfl).1 K;simp[bh]at this;have P:=this.1.1;refine bE ax func129 zY vg rfl ?_;conv=>whnf
  refine aB (CG v g F a b pS xK P) (λz j d=>?_);conv=>whnf
  rw[e];exact d
 by_cases J0:c=21
 ·subst J0;have:=(aS (p:=5) (q:=9) rfl).1 K;simp[bh]at this;have P:=this.1;refine bE ax func129 zY vg rfl ?_;conv=>whnf
  refine aB (CH v g F a b pS xK P (λhf A V By=>(qW F P.2 hf (A.toNat+1) O V By).1)) (λz j d=>?_);conv=>whnf
  rw[e];exact d
 rw[if_neg O]at e;by_cases IJ:c=23
 ·subst IJ;rw[if_pos rfl]at e;have Q:=g.ref;have MT:=rO v g;have w:=iK x;have Lv:(aE x).2.objs=x.objs:=(gL x).2.1;generalize (aE x).1=n at *;generalize (aE x).2=y at *;refine bE ax func129 zY vg rfl ?_;conv=>whnf
  refine aB MT (λz j d=>?_);have hv:=d.1;subst hv;refine d.2.elim λs m=>?_;have o:=m.1;conv=>whnf
  apply aC<;>intro i;all_goals conv=>whnf
  ·refine aB (iq o 2) (λz C d=>?_);conv=>whnf
   rw[e,if_pos i];exact XE.trans m.2.1 d.Kc
  have r9:=o.iP.1;refine ld r9 ?_;conv=>whnf
  apply dG<;>intro S;all_goals conv=>whnf
  ·have Y:0 < n/\n<=y.objs.length:=by rw[Lv];omega
   have hO:=Q.1.uF _ (fO (objs:=y.objs) Y.1 Y.2);have EC : -2<=(aM y.objs n).cls/\(aM y.objs n).cls < u.ak.length:=by
    rcases hO.2 with ⟨C,_⟩|⟨C,h3,_⟩
    ·have:=ok.1;omega
    omega
   have hlen:=Q.1.len;have Ly:=Q.1.nf;have J2:∀ i∈y.wO.aq,0<=i.aG/\i.aG < u.methods.length:=λi hg=>by
    have J:i∈y.fs++[y.f]:=hg;simp only[u_,V_]at J;rcases J with J|rfl
    ·rw[w.1]at J;exact(LA i J).1
    exact Q.1.jX.1
   have G5:∀ G∈u.methods,∀ A∈G.catches,(0<=A.hi/\A.hi<=1000)/\0<=A.cls:=λG X A V=>by
    have Gl:=F.2.2.2.1 G X;have j:=Gl.2.2.2 A V;have C:=Gl.2.1.2.1;obtain⟨q1,q2,q3,_⟩:=j;omega
   refine aB (wS o ok n Y (show y.objs.length<=1000 by omega) (show(y.fs++[y.f]).length<=1000 by simp;omega) EC J2 G5) (λz C d=>?_);conv=>whnf
   rw[e,if_neg i,if_pos S];exact XE.trans m.2.1 d
  rw[e,if_neg i,if_neg (by rw[S];simp)];exact⟨s,o,m.2.1⟩
 rw[if_neg IJ]at e;by_cases kj:8<=c/\c<=11
 ·rw[if_pos kj]at e;obtain⟨bf,I⟩:=v.tp;have sw:=pT v I g.wQ;have L:=v.G4 I;have XQ:=g.bump OM;have w:=EJ (eV x) ⟨c,a,b⟩;refine bE ax func129 zY vg rfl ?_;conv=>whnf
  refine cu R ?_;conv=>whnf
  repeat' ((first|refine bZ ?_)<;>conv=>whnf)
  refine au (dW _ _ _ _) ?_;conv=>whnf
  refine dm ?_;conv=>whnf
  refine au sw ?_;conv=>whnf
  refine ld L.1 ?_;conv=>whnf
  refine av ?_;conv=>whnf
  refine L.2 _ _ (λj d=>?_);refine d.elim λs m=>?_;have o:XS h0 j t M u (eV x) s:=m.1;conv=>whnf
  refine aB (G3 o XQ c a b) (λz C d=>?_);have hv:=d.1;subst hv;refine d.2.elim λB2 H=>?_;have D:=H.1;have N:=m.2.1.trans H.2.1;have IQ:Tp C t (er (eV x) ⟨c,a,b⟩).2.fs.length bf:=by
   obtain⟨c0,q0⟩:=I;exact⟨c0,by rw[H.2.2,m.2.2,w.1];exact q0⟩
  have UZ:=D.G4 IQ;have GY:(er (eV x) ⟨c,a,b⟩).2.fs.length=x.fs.length:=by rw[w.1];rfl
  rw[GY]at UZ;conv=>whnf
  apply fh<;>intro i;all_goals conv=>whnf
  ·refine UZ.2 _ _ (λh3 W=>?_);conv=>whnf
   rw[e,if_pos i];exact XE.trans N W.Kc
  rw[e,if_neg (by rw[i];simp)];exact⟨B2,D,N⟩
 rw[if_neg kj]at e;have OV:Ka u x ⟨c,a,b⟩:=by
  refine⟨λE=>?_,λE=>?_,K.iJ⟩
  ·simp only at E;have hl:=g.jX.2.2.1;rcases E with rfl|rfl;all_goals
    have:=(aS (p:=2) (q:=0) rfl).1 K;simp[bh]at this;show 0<=a/\a < (x.f.locals.length:Int);omega
  simp only at E;rcases E with rfl|rfl|rfl;all_goals
   have:=(aS (p:=6) (q:=0) rfl).1 K;simp[bh]at this;exact this.1
 have M5:∀(j:Heap) (s:List Nat),XS h0 j t M u (eK x ⟨c,a,b⟩) s->bq prog 191 [.pointer (some ⟨t,0,none⟩),.agg #[.int .i64 c,.int .i64 a,.int .i64 b]] j λ_ T=>XR h0 j t M u s (fG u (eK x ⟨c,a,b⟩) ⟨c,a,b⟩) T:=by
  intro j s o;by_cases E:c < 12\/19 < c
  ·exact Hg o c a b E
  have hp:eK x ⟨c,a,b⟩=x:=by
   unfold eK;simp only;repeat rw[if_neg O]
  rw[hp]at o ⊢;exact Kb o g ok c a b OV
 have w:=(EI x ⟨c,a,b⟩).trans (Hf u (eK x ⟨c,a,b⟩) ⟨c,a,b⟩);refine bE ax func129 zY vg rfl ?_;conv=>whnf
 refine cu R ?_;conv=>whnf
 repeat' ((first|refine bZ ?_)<;>conv=>whnf)
 refine au (dW _ _ _ _) ?_;conv=>whnf
 refine bZ ?_;conv=>whnf
 refine aB (G2 v g c a b OV O) (λz j d=>?_);refine d.elim λs m=>?_;conv=>whnf
 refine aB (M5 j s m.1) (λz C d=>?_);refine d.elim λB2 H=>?_;have D:=H.1;have N:=m.2.1.trans H.2.1;generalize fG u (eK x ⟨c,a,b⟩) ⟨c,a,b⟩=y at D w e;refine D.tp.elim λbf I=>?_;have IB:y.fs.length<=1000:=by rw[w.1];exact g.wQ
 have L:=D.G4 I;have hyp:=w.2.1;conv=>whnf
 refine au (pT D I IB) ?_;conv=>whnf
 refine ld L.1 ?_;conv=>whnf
 refine av ?_;conv=>whnf
 refine L.2 _ _ (λh3 W=>?_);conv=>whnf
 rw[e];exact XE.trans N W.Kc
theorem tS {o:TypeId} {h e:Heap} {b:Nat} {t:TypeId} {l:List Vl} {vs:List Value} {m:Nat} {K:Value->Heap->Prop} (u:h.le e) (q:e b=some (.cells #[] t (0,0))) (p:h b=none) (i:vs=(l.map dO).flatten) (v:m=(l.map dO).length) (g:(l.map dO).length<=1000000)
  (s:∀ d c a B',h.le a->dx a (.slice d (l.map dO).length c) l B'->(∀ b∈B',h b=none)->K (.slice d (l.map dO).length c) a):App 16 2 [.bool false,.int .i64 0] o e (some ⟨b,0,none⟩) 0 0 m vs K:=by
 refine dh (h0:=h) (xs:=[]) (ys:=l.map dO) (B:=[b]) (dL q) (by simpa using p) u i v (λE w=>by obtain⟨D,_,rfl⟩:=List.mem_map.1 w;rfl) (by rw[i];exact jw l) rfl (by simp at g ⊢;omega) (by simp at g ⊢;omega) ?_;intro C a j x f y z A;rw[List.nil_append]at f;obtain⟨d,c,rfl,_⟩:=bY.form f;exact s d c a j x f y
theorem vt {o:TypeId} {h e:Heap} {b:Nat} {t:TypeId} {l:List Int} {vs:List Value} {m:Nat} {K:Value->Heap->Prop} (u:h.le e) (q:e b=some (.cells #[] t (0,0))) (p:h b=none) (i:vs=(l.map bD).flatten) (v:m=(l.map bD).length) (g:(l.map bD).length<=1000000)
  (s:∀ d c a B',h.le a->dM a (.slice d (l.map bD).length c) l B'->(∀ b∈B',h b=none)->K (.slice d (l.map bD).length c) a):App 8 1 [.int .i64 0] o e (some ⟨b,0,none⟩) 0 0 m vs K:=by
 refine dh (h0:=h) (xs:=[]) (ys:=l.map bD) (B:=[b]) (dL q) (by simpa using p) u i v (λE w=>by obtain⟨D,_,rfl⟩:=List.mem_map.1 w;rfl) (by rw[i,dj];exact cR l) rfl (by simp at g ⊢;omega) (by simp at g ⊢;omega) ?_;intro C a j x f y z A;rw[List.nil_append]at f;obtain⟨d,c,rfl,_⟩:=bY.form f;exact s d c a j x f y
theorem Acc.As {p:Type} {R:Heap->List Value->p->List Nat->Prop} {sz:Nat} {h0 h:Heap} {A:List Nat} {b:Nat} {t:TypeId} (j:h0.le h) (g:h0 b=none) (i:h b=some (.cells #[] t (0,0))) (f:b ∉ A) (nd:Nd A) (e:∀ b∈A,h0 b=none) (m:∀ b∈A,∃ o,h b=some o):Acc R sz h0 h (.slice (some ⟨b,0,none⟩) 0 0) [] [b] A :=
 ⟨j,⟨[],[b],[],dL i,.nil,rfl⟩,λc=>by
  simp only[Y_,X_,List.count_nil];by_cases d:b=c
  ·subst d;simp[List.count_eq_zero.2 f]
  ·simp[d];exact nd c,λx a=>by
  rcases u_.1 a with a|a
  ·rw[V_.1 a];exact g
  exact e x a,m⟩
theorem vu (mc:List Value) (M:cr) (h:Heap) (hr:yy h mc M) :
  bq prog 55 [.agg ⟨mc⟩] h λv h'=>h.le h'/\∃ M6 B,v=.agg ⟨M6⟩/\gZ h' M6 M B/\Nd B/\∀ b∈B,h b=none:=by
 obtain⟨vo,vf,vs,rfl,s1,s2,d,hf,hs⟩:=hr;obtain⟨po,co,rfl,_,_⟩:=d.len;obtain⟨pf,L,rfl,_,_⟩:=hf.len;have XT:=hs;obtain⟨EB,_,I,F,rfl,_⟩:=hs;refine bE ax func55 WJ U rfl ?_;unfold aR;conv=>whnf
 refine cZ [] rfl (λb0 h1 EK e0 l1 g0=>?_);conv=>whnf
 refine eF [1,2,3,4] [1,2,3] (λs:Nat × Heap × Option Addr × Nat × List Nat=>s.1<=M.objs.length/\Acc kN 2 h s.2.1 (.slice s.2.2.1 s.1 s.2.2.2.1) (M.objs.take s.1) s.2.2.2.2 []) (λs=>M.objs.length-s.1)
  (λs=>([.l 1 0,.l 2 0,.l 3 0,.v (.int .i64 s.1)],
   [some (aR (.slice po M.objs.length co) (.slice pf M.aq.length L) (.slice I (M.said.map bD).length F) M),some [.slice none 0 0,.slice none 0 0,.slice none 0 0,.int .i64 0,.int .i64 0,.bool false,.int .i64 0],
    some (aR (.slice s.2.2.1 s.1 s.2.2.2.1) (.slice pf M.aq.length L) (.slice I (M.said.map bD).length F) M)],s.2.1))
  (0,h1,some ⟨b0,0,none⟩,0,[b0]) ⟨O,Acc.As l1 EK g0 Z (λ_=>Z) Z Z⟩ rfl ?_
 rintro⟨i,h2,ab,aa,B⟩ ⟨Y,ac⟩;simp only at Y ac ⊢;unfold aR;conv=>whnf
 apply aC<;>intro R;all_goals conv=>whnf
 ·have z:i < M.objs.length:=by omega
  have N:=(d.le ac.le (λ_ _ f=>f.le ac.le)).get z;obtain⟨bb,off,xs,hq,m,vv,rfl,p⟩:=N;have P:=p;obtain⟨Q,_,pv,cv,rfl,_⟩:=p;have r0:=aJ m (i:=0) rfl;have r1:=aJ m (i:=1) rfl;repeat' ((first|exact trivial|apply T_|refine ay ?_|refine aL hq ?_|refine ld r0 ?_|refine ld r1 ?_|refine ld (cW G r0) ?_|refine ld (cW G r1) ?_|refine ld (cW l4 r0) ?_|refine cZ [] rfl (λb1 T uN US G g3=>?_)|refine ju.IC (P.le G) ?_|refine tS G g3 uN rfl rfl Q (λH E h4 B4 l4 o4 n4=>?_))<;>conv=>whnf)
  all_goals
   refine wF kO xJ (a:=M.objs[i]) (Bi:=B4) ac l4 ⟨_,rfl,o4⟩ o4.nd n4 rfl rfl rfl rfl (by simp;omega) (by simp;omega) ?_;intro H E V J x hk;have A:(M.objs.take i).length=i:=by simp;omega
   rw[List.take_append_getElem z,A]at x;rw[A];conv=>whnf
   refine av ?_;conv=>whnf
   exact cL (i+1,V,H,E,J) ⟨O,x⟩ (by simp only;omega) rfl
 have yH:i=M.objs.length:=by omega
 subst yH;rw[List.take_length]at ac;have hA:Nd B:=by have:=ac.nd;simpa using this
 have U0:∀ b∈B,h b=none:=λb c=>ac.fr b (by simp[c]);have M7:=ac.own.in xJ;refine cZ [] rfl (λj h6 W ee6 l6 g6=>?_);conv=>whnf
 have wB:h j=none:=by
  cases y:h j with
  | none=>rfl
  | some o=>rw[ac.le j o y]at W;cases W
 have Sp:j ∉ B:=λf=>by obtain⟨o,d⟩:=M7 j f;rw[W]at d;cases d
 refine eF [1,2,3,5] [1,2,3] (λs:Nat × Heap × Option Addr × Nat × List Nat=>s.1<=M.aq.length/\Acc nU 4 h s.2.1 (.slice s.2.2.1 s.1 s.2.2.2.1) (M.aq.take s.1) s.2.2.2.2 B/\ep kN 2 s.2.1 (.slice ab M.objs.length aa) M.objs B) (λs=>M.aq.length-s.1)
  (λs=>([.l 1 0,.l 2 0,.l 3 0,.v (.int .i64 s.1)],
   [some (aR (.slice po M.objs.length co) (.slice pf M.aq.length L) (.slice I (M.said.map bD).length F) M),some [.slice none 0 0,.slice none 0 0,.slice none 0 0,.int .i64 0,.int .i64 0,.bool false,.int .i64 0],
    some (aR (.slice ab M.objs.length aa) (.slice s.2.2.1 s.1 s.2.2.2.1) (.slice I (M.said.map bD).length F) M)],s.2.1))
  (0,h6,some ⟨j,0,none⟩,0,[j]) ⟨O,Acc.As (y_ ac.le l6) wB g6 Sp hA U0 (λb c=>by obtain⟨o,d⟩:=M7 b c;exact⟨o,l6 b o d⟩),ac.own.aK kO (cS.of_le l6 _)⟩ rfl ?_
 rintro⟨i,T,p2,c2,K⟩ ⟨Y,e,oo⟩;simp only at Y e oo ⊢;unfold aR;conv=>whnf
 apply aC<;>intro R;all_goals conv=>whnf
 ·have z:i < M.aq.length:=by omega
  have N:=(hf.le e.le (λ_ _ f=>f.le e.le)).get z;obtain⟨bb,off,xs,hq,m,v1,v2,rfl,p,e3⟩:=N;have P:=p;have XU:=e3;obtain⟨Q,_,pv,cv,rfl,_⟩:=p;obtain⟨XV,_,pw,cw,rfl,_⟩:=e3;refine ay ?_;conv=>whnf
  refine aL hq ?_;conv=>whnf
  refine dZ m ?_;conv=>whnf
  refine cZ [] rfl (λb7 h7 M8 ee7 l7 g7=>?_);conv=>whnf
  refine ju.IC (P.le l7) ?_;conv=>whnf
  refine tS l7 g7 M8 rfl rfl Q (λp8 c8 h8 w l8 o8 n8=>?_);conv=>whnf
  refine cZ [] rfl (λb9 h9 X XW C S=>?_);conv=>whnf
  refine ju.IC (XU.le (y_ l8 C)) ?_;conv=>whnf
  refine tS C S X rfl rfl XV (λXX U1 G7 g t D u=>?_);conv=>whnf
  have nF:Nd (w++g):=by
   intro a;have m:=o8.nd a;have p:=D.nd a;simp only[Y_];by_cases q:a∈g
   ·have:w.count a=0:=by
     refine List.count_eq_zero.2 λf=>?_;obtain⟨o,d⟩:=o8.in a f;rw[u a q]at d;cases d
    omega
   have:=List.count_eq_zero.2 q;omega
  have fF:∀ b∈w++g,T b=none:=by
   intro b c;rcases u_.1 c with c|c
   ·exact n8 b c
   cases y:T b with
   | none=>rfl
   | some o=>have:=u b c;rw[l8 b o y]at this;cases this
  refine wF pN OI (a:=M.aq[i]) (Bi:=w++g) e (y_ l8 t) ⟨_,_,w,g,rfl,o8.aK (cS.of_le t _),D,rfl⟩ nF fF rfl rfl rfl rfl (by simp;omega) (by simp;omega) ?_;intro H E V J x hk;have A:(M.aq.take i).length=i:=by simp;omega
  rw[List.take_append_getElem z,A]at x;rw[A];conv=>whnf
  refine av ?_;conv=>whnf
  exact cL (i+1,V,H,E,J) ⟨O,x,oo.aK kO hk⟩ (by simp only;omega) rfl
 have yH:i=M.aq.length:=by omega
 subst yH;rw[List.take_length]at e;refine cZ [] rfl (λb9 h9 X XW C S=>?_);conv=>whnf
 refine ju.IC (XT.le (y_ e.le C)) ?_;conv=>whnf
 refine vt C S X rfl rfl EB (λXX U1 G7 g t D u=>?_);conv=>whnf
 have Kt:=e.own.in OI;refine⟨y_ e.le t,_,B++K++g,rfl,⟨_,_,_,B,K,g,rfl,oo.aK kO (cS.of_le t _),e.own.aK pN (cS.of_le t _),D,rfl⟩,?_,λb c=>?_⟩
 ·intro a;have m:=e.nd a;have p:=D.nd a;simp only[Y_]at m ⊢;by_cases q:a∈g
  ·have:K.count a=0:=List.count_eq_zero.2 λf=>by obtain⟨o,d⟩:=Kt a f;rw[u a q]at d;cases d
   have:B.count a=0:=List.count_eq_zero.2 λf=>by obtain⟨o,d⟩:=e.Xk a f;rw[u a q]at d;cases d
   omega
  have:=List.count_eq_zero.2 q;omega
 simp only[u_]at c;rcases c with (c|c)|c
 ·exact U0 b c
 ·exact e.fr b (by simp[c])
 cases y:h b with
 | none=>rfl
 | some o=>have:=u b c;rw[e.le b o y]at this;cases this
def Mon (x y:Sx):Prop:=x.st=true->y.st=true
theorem BE (x:Sx):Mon x (aU x).2:=λh=>by unfold aU;split;rfl;exact h
theorem jI (x:Sx):Mon x (aD x).2:=λh=>by unfold aD;split;rfl;exact BE x h
theorem jY (x:Sx):Mon x (aE x).2:=λh=>by unfold aE;split;exact BE x h;rfl
theorem mS (x:Sx) (v:Vl):Mon x (cT x v):=λh=>by unfold cT;split;rfl;exact h
theorem nK (x:Sx) (k:Int):Mon x (cj x k):=λh=>by unfold cj;split;exact h;exact h
theorem vz (u:aI) (x:Sx) (n k:Int):Mon x (aZ u x n k):=λh=>by
 unfold aZ;rw[if_pos (.inl h)];exact h
theorem EL (x:Sx) (o:Ob):Mon x (gH x o):=λh=>by unfold gH;rw[if_pos (.inl h)];exact h
theorem mT {x:Sx} (h:x.f.stack=[]):(aU x).2.st=true:=by rw[pV h]
theorem iC {x:Sx} (h:x.f.stack=[]):(aD x).2.st=true:=by
 unfold aD;split;rfl;exact mT h
theorem fq {x:Sx} {l:List Vl} {v:Vl} (h:x.f.stack=l++[v]) (a:v.ref=true):(aD x).2.st=true:=by
 unfold aD;rw[e8 h];simp[a]
theorem fQ {x:Sx} {l:List Vl} {v:Vl} (h:x.f.stack=l++[v]) (a:v.ref=false):aD x=(v.n,{x with f:={x.f with stack:=l} }):=by
 unfold aD;rw[e8 h];simp[a]
theorem jZ {x:Sx} (h:x.f.stack=[]):(aE x).2.st=true:=by
 unfold aE;split;exact mT h;rfl
theorem j0 {x:Sx} {l:List Vl} {v:Vl} (h:x.f.stack=l++[v]) (a:v.ref=false):(aE x).2.st=true:=by
 unfold aE;rw[e8 h];simp[a]
theorem mU {x:Sx} {l:List Vl} {v:Vl} (h:x.f.stack=l++[v]) (a:v.ref=true):aE x=(v.n,{x with f:={x.f with stack:=l} }):=by
 unfold aE;rw[e8 h];simp[a]
def Rl (r:Except Int cr) (s:cr × Bool × Int):Prop:=match r with
 | .ok a=>s=(a,false,0)
 | .error k=>if k=0 then s.2.1=true else s.2.1=false/\s.2.2=k
theorem Rl.stuck {s:cr × Bool × Int} (h:s.2.1=true):Rl (.error 0) s:=by simp[Rl,h]
theorem Rl.EM {s:cr × Bool × Int} {k:Int} (c:k≠0) (a:s.2.1=false) (b:s.2.2=k):Rl (.error k) s:=by simp[Rl,c,a,b]
theorem Rl.ok {s:cr × Bool × Int} {M':cr} (h:s=(M',false,0)):Rl (.ok M') s:=h
theorem yO {u:aI} {x:dc} {cA:List Vl} (h:gT u x=some []):eI u x cA=some ([],cA):=by simp[eI,h,iX]
theorem jJ {u:aI} {x:dc} {w:Int} (h:gT u x=some [w]):eI u x []=none:=by simp[eI,h]
theorem mV {u:aI} {x:dc} {w:Int} {l:List Vl} {v:Vl} (h:gT u x=some [w]):eI u x (l++[v])=if iX [w] [v]=true then some ([v],l)else none:=by simp[eI,h]
theorem mW {u:aI} {x:dc} {a b:Int} {cA:List Vl} (h:gT u x=some [a,b]) (c:cA.length < 2):eI u x cA=none:=by
 simp[eI,h];omega
theorem BF {u:aI} {x:dc} {c d:Int} {l:List Vl} {a b:Vl} (h:gT u x=some [c,d]):eI u x (l++[a,b])=if iX [c,d] [a,b]=true then some ([a,b],l)else none:=by
 simp[eI,h];intro e;omega
theorem At {u:aI} {x:dc} {a b c:Int} {cA:List Vl} (h:gT u x=some [a,b,c]) (d:cA.length < 3):eI u x cA=none:=by
 simp[eI,h];omega
theorem M9 {u:aI} {x:dc} {d e f:Int} {l:List Vl} {a b c:Vl} (h:gT u x=some [d,e,f]):eI u x (l++[a,b,c])=if iX [d,e,f] [a,b,c]=true then some ([a,b,c],l)else none:=by
 simp[eI,h];intro g;omega
theorem fW (s:List Vl):s=[]\/∃ l v,s=l++[v]:=by
 rcases List.eq_nil_or_concat s with h|⟨l,v,h⟩
 ·exact .inl h
 exact .inr ⟨l,v,by simpa using h⟩
def aQ (M:cr) (fs:List cJ) (f:cJ):Sx:=⟨M.objs,fs,f,M.said,M.steps,M.fin,M.out,false,0⟩
def nW (M:cr) (fs:List cJ) (f:cJ) (r:JT) (a:Int):Except Int cr:=match r with
 | .error e=>.error e
 | .ok (objs,g,said,goes)=>.ok {M with objs:=objs,said:=said,aq:=fs++[{g with pc:=if goes then a else f.pc+1}]}
def mX (u:aI) (x:Sx) (i:dc):cr × Bool × Int:=(eV (fG u (eK x i) i)).res
theorem iZ {M:cr} {fs:List cJ} {f:cJ} {x:Sx} {v:Vl} {a:Int} {cA:List Vl} (b:x=aQ M fs {f with stack:=cA}):Rl (nW M fs f (fV M.objs {f with stack:=cA} M.said v) a) (eV (cT x v)).res:=by
 subst b;by_cases h:cA.length < 4
 ·rw[El h,mR h];exact Rl.ok rfl
 rw[Cv (by show 4<=cA.length;omega),kQ (by show 4<=cA.length;omega)];exact Rl.stuck rfl
theorem EN {x:Sx} {k a b:Int} (h:12<=k/\k<=19):eK x ⟨k,a,b⟩=x:=by
 unfold eK;simp only;repeat rw[if_neg O]
theorem Hh {u:aI} {x:Sx} {k a b:Int} (h:k < 12\/19 < k):fG u x ⟨k,a,b⟩=x:=by
 unfold fG;simp only;repeat rw[if_neg O]
theorem EO (u:aI) (M:cr) (fs:List cJ) (f:cJ) (k a b:Int) (B:k=1\/k=2\/k=3\/k=4\/k=5\/k=6\/k=7\/k=24) :
  Rl (match eI u ⟨k,a,b⟩ f.stack with
   | none=>.error 0
   | some (ki,rest)=>nW M fs f (lU u ⟨k,a,b⟩ ki M.objs {f with stack:=rest} M.said) a) (mX u (aQ M fs f) ⟨k,a,b⟩):=by
 have C:∀ x:Sx,fG u x ⟨k,a,b⟩=x:=λx=>Hh O;unfold mX;rw[C];obtain⟨d,e,c,cA⟩:=f;simp only;rcases B with rfl|rfl|rfl|rfl|rfl|rfl|rfl|rfl
 ·rw[yO rfl];exact iZ (f:=⟨d,e,c,cA⟩) rfl
 ·rw[yO rfl];exact iZ (f:=⟨d,e,c,cA⟩) rfl
 ·rw[yO rfl];exact iZ (f:=⟨d,e,c,cA⟩) rfl
 ·rcases fW cA with rfl|⟨l,v,rfl⟩
  ·rw[jJ rfl];exact Rl.stuck (mT (x:=aQ M fs ⟨d,e,c,[]⟩) rfl)
  rw[mV rfl];have p:=e8 (x:=aQ M fs ⟨d,e,c,l++[v]⟩) rfl;have o:eK (aQ M fs ⟨d,e,c,l++[v]⟩) ⟨4,a,b⟩=aQ M fs ⟨d,e,c.set a.toNat v,l⟩:=by
   show({ (aU _).2 with f:=_}:Sx)=_;rw[p];rfl
  rw[o];exact Rl.ok rfl
 ·rcases fW cA with rfl|⟨l,v,rfl⟩
  ·rw[jJ rfl];exact Rl.stuck (mT (x:=aQ M fs ⟨d,e,c,[]⟩) rfl)
  rw[mV rfl];have p:=e8 (x:=aQ M fs ⟨d,e,c,l++[v]⟩) rfl;have o:eK (aQ M fs ⟨d,e,c,l++[v]⟩) ⟨5,a,b⟩=aQ M fs ⟨d,e,c,l⟩:=by
   show(aU _).2=_;rw[p];rfl
  rw[o];exact Rl.ok rfl
 ·rcases fW cA with rfl|⟨l,v,rfl⟩
  ·rw[jJ rfl];exact Rl.stuck (mS _ (aU (aQ M fs ⟨d,e,c,[]⟩)).1 (mS _ (aU (aQ M fs ⟨d,e,c,[]⟩)).1 (mT (x:=aQ M fs ⟨d,e,c,[]⟩) rfl)))
  rw[mV rfl];have p:=e8 (x:=aQ M fs ⟨d,e,c,l++[v]⟩) rfl;have o:eK (aQ M fs ⟨d,e,c,l++[v]⟩) ⟨6,a,b⟩=cT (cT (aQ M fs ⟨d,e,c,l⟩) v) v:=by
   show cT (cT (aU _).2 (aU _).1) (aU _).1=_;rw[p];rfl
  rw[o];show Rl (nW M fs _ (match ey M.objs ⟨d,e,c,l⟩ v with
   | .ok (_,g)=>fV M.objs g M.said v
   | .error o=>.error o) a) _
  by_cases m:l.length < 4
  ·rw[mR (x:=aQ M fs ⟨d,e,c,l⟩) m];have t:ey M.objs ⟨d,e,c,l⟩ v=.ok (M.objs,⟨d,e,c,l++[v]⟩):=if_pos m;rw[t];exact iZ (f:=⟨d,e,c,l++[v]⟩) rfl
  have t:ey M.objs ⟨d,e,c,l⟩ v=.error 0:=if_neg m;rw[t];refine Rl.stuck (mS _ _ ?_);rw[kQ (by show 4<=l.length;omega)]
 ·have o:eK (aQ M fs ⟨d,e,c,cA⟩) ⟨7,a,b⟩=Ez (aQ M fs ⟨d,e,c,cA⟩) a:=rfl;rw[o];have bad:∀ x:Sx,(aD (aD x).2).2.st=true->(Ez x a).st=true:=λx m=>by
   unfold Ez;simp only;split
   ·exact mS _ _ m
   exact nK _ _ m
  rcases fW cA with rfl|⟨E,i,rfl⟩
  ·rw[mW rfl Z];exact Rl.stuck (bad _ (jI _ (iC (x:=aQ M fs ⟨d,e,c,[]⟩) rfl)))
  rcases fW E with rfl|⟨l,h,rfl⟩
  ·rw[mW rfl Z];refine Rl.stuck (bad _ ?_);cases j:i.ref with
   | true=>exact jI _ (fq (x:=aQ M fs ⟨d,e,c,[]++[i]⟩) rfl j)
   | false=>rw[fQ (x:=aQ M fs ⟨d,e,c,[]++[i]⟩) rfl j];exact iC rfl
  rw[List.append_assoc];have D:l++([h]++[i])=l++[h,i]:=rfl;rw[D,BF rfl];have w:(aQ M fs ⟨d,e,c,l++[h,i]⟩).f.stack=(l++[h])++[i]:=by simp[aQ]
  cases j:i.ref with
  | true =>
   rw[if_neg (by simp[iX,j])];exact Rl.stuck (bad _ (jI _ (fq w j)))
  | false =>
   cases s:h.ref with
   | true =>
    rw[if_neg (by simp[iX,s])];refine Rl.stuck (bad _ ?_);rw[fQ w j];exact fq (l:=l) (v:=h) rfl s
   | false =>
    rw[if_pos (by simp[iX,j,s])];have y:=fQ w j;have z:aD (aD (aQ M fs ⟨d,e,c,l++[h,i]⟩)).2=(h.n,aQ M fs ⟨d,e,c,l⟩):=by
     rw[y];exact fQ (l:=l) (v:=h) rfl s
    have A:Ez (aQ M fs ⟨d,e,c,l++[h,i]⟩) a=if (gI a h.n i.n).2=true then cT (aQ M fs ⟨d,e,c,l⟩) ⟨false,(gI a h.n i.n).1⟩else cj (aQ M fs ⟨d,e,c,l⟩) 1:=by
     unfold Ez;simp only[z];rw[y]
    rw[A];show Rl (nW M fs _ (if (gI a h.n i.n).2 then fV M.objs ⟨d,e,c,l⟩ M.said ⟨false,(gI a h.n i.n).1⟩else .error 1) a) _;by_cases q:(gI a h.n i.n).2=true
    ·rw[if_pos q,if_pos q];exact iZ (f:=⟨d,e,c,l++[h,i]⟩) rfl
    rw[if_neg q,if_neg q];exact Rl.EM (by decide) rfl rfl
 have o:eK (aQ M fs ⟨d,e,c,cA⟩) ⟨24,a,b⟩=if (aD (aQ M fs ⟨d,e,c,cA⟩)).2.st=false then { (aD (aQ M fs ⟨d,e,c,cA⟩)).2 with said:=(aD (aQ M fs ⟨d,e,c,cA⟩)).2.said++[(aD (aQ M fs ⟨d,e,c,cA⟩)).1]}else (aD (aQ M fs ⟨d,e,c,cA⟩)).2:=rfl
 rw[o];rcases fW cA with rfl|⟨l,v,rfl⟩
 ·have m:=iC (x:=aQ M fs ⟨d,e,c,[]⟩) rfl;rw[jJ rfl,if_neg (by rw[m];simp)];exact Rl.stuck m
 rw[mV rfl];cases j:v.ref with
 | true =>
  have m:=fq (x:=aQ M fs ⟨d,e,c,l++[v]⟩) rfl j;rw[if_neg (by simp[iX,j]),if_neg (by rw[m];simp)];exact Rl.stuck m
 | false =>
  rw[if_pos (by simp[iX,j]),fQ (x:=aQ M fs ⟨d,e,c,l++[v]⟩) rfl j];exact Rl.ok rfl
def pZ (r:tn) (a:List Int):JT:=match r with
 | .ok (o,g)=>.ok (o,g,a,false)
 | .error e=>.error e
theorem yP {u:aI} {k a b:Int} {d:List Vl} {objs:List Ob} {f:cJ} {c:List Int} (h:12<=k/\k<=19):lU u ⟨k,a,b⟩ d objs f c=pZ (gr u ⟨k,a,b⟩ d objs f) c:=by
 unfold lU;simp only;repeat rw[if_neg O]
 rfl
theorem EP {M:cr} {fs:List cJ} {f:cJ} {x:Sx} {o:Ob} {a:Int} {cA:List Vl} (c:x=aQ M fs {f with stack:=cA}) :
  Rl (nW M fs f (pZ (ey (M.objs++[o]) {f with stack:=cA} ⟨true,M.objs.length+1⟩) M.said) a) (eV (gH x o)).res:=by
 subst c;have b:gH (aQ M fs {f with stack:=cA}) o=cT {aQ M fs {f with stack:=cA}with objs:=M.objs++[o]} ⟨true,M.objs.length+1⟩:=by
  unfold gH;rw[if_neg (by simp[Sx.bad,aQ])];rfl
 rw[b];by_cases h:cA.length < 4
 ·rw[mR h];have:ey (M.objs++[o]) {f with stack:=cA} ⟨true,M.objs.length+1⟩=.ok (M.objs++[o],{f with stack:=cA++[⟨true,M.objs.length+1⟩]}):=if_pos h;rw[this];exact Rl.ok rfl
 rw[kQ (by show 4<=cA.length;omega)];have:ey (M.objs++[o]) {f with stack:=cA} ⟨true,M.objs.length+1⟩=.error 0:=if_neg h;rw[this];exact Rl.stuck rfl
theorem ER {x:Sx} {o:Ob} (h:x.bad):gH x o=x:=if_pos h
theorem tT {u:aI} {x:Sx} {k:Int} (a:¬x.bad):aZ u x 0 k=cj x 2:=by unfold aZ;rw[if_neg a,if_pos rfl]
theorem tU {u:aI} {x:Sx} {n k:Int} (a:¬x.bad) (c:n≠0) (b:eR u (aM x.objs n).cls k=true):aZ u x n k = {x with st:=true}:=by unfold aZ;rw[if_neg a,if_neg c,if_pos b]
theorem qY {u:aI} {x:Sx} {n k:Int} (a:¬x.bad) (c:n≠0) (b:eR u (aM x.objs n).cls k=false):aZ u x n k=x:=by unfold aZ;rw[if_neg a,if_neg c,if_neg (by rw[b];simp)]
def vB (u:aI) (x:Sx) (n w k:Int) (set:Bool) (v:Vl):Sx :=
 if (aZ u x n (-1-k)).bad then aZ u x n (-1-k)else if ¬(0<=w/\w < (aM (aZ u x n (-1-k)).objs n).bp.length)then cj (aZ u x n (-1-k)) 3
 else if set=true then CE (aZ u x n (-1-k)) n w v else cT (aZ u x n (-1-k)) ((aM (aZ u x n (-1-k)).objs n).bp.getD w.toNat dy)
theorem gN {u:aI} {x:Sx} {n w k:Int} {set:Bool} {v:Vl} (h:x.st=true):(vB u x n w k set v).st=true:=by
 have a:=vz u x n (-1-k) h;unfold vB;rw[if_pos (.inl a)];exact a
theorem Ku (M:cr) (fs:List cJ) (f:cJ):¬(aQ M fs f).bad:=by simp[Sx.bad,aQ]
theorem BG {u:aI} {M:cr} {fs:List cJ} {f:cJ} {x:Sx} {k w a:Int} {b v:Vl} {cA:List Vl} {set:Bool} (m:x=aQ M fs {f with stack:=cA}) (q:k=0\/k=1) (s:0<=b.n) :
  Rl (nW M fs f (pZ (match oJ M.objs b k w with
   | .error e=>.error e
   | .ok o=>if set=true then .ok (gU M.objs b.n (putAt o.bp w v),{f with stack:=cA})else ey M.objs {f with stack:=cA} (o.bp.getD w.toNat dy)) M.said) a) (eV (vB u x b.n w k set v)).res:=by
 subst m;have g:=Ku M fs {f with stack:=cA};unfold vB;by_cases d:b.n=0
 ·rw[Ec d,d,tT g];have:(cj (aQ M fs {f with stack:=cA}) 2).bad:=.inr (by show(0:Int) < 2;decide);rw[if_pos this];exact Rl.EM (by decide) rfl rfl
 have i:0 < b.n:=by omega
 have p:eR u (aM M.objs b.n).cls (-1-k) = !decide ((aM M.objs b.n).cls=qT k):=by
  unfold eR qT;rcases q with rfl|rfl<;>simp
 by_cases c:(aM M.objs b.n).cls=qT k
 ·rw[qY g d (by show eR u (aM M.objs b.n).cls (-1-k)=false;rw[p];simp[c]),if_neg g];by_cases h:0<=w/\w < (aM M.objs b.n).bp.length
  ·have j:0<=w/\w < (aM (aQ M fs {f with stack:=cA}).objs b.n).bp.length:=h;rw[GP i c h,if_neg (λm=>m j)];cases set with
   | true=>exact Rl.ok rfl
   | false =>
    have e:pZ (ey M.objs {f with stack:=cA} ((aM M.objs b.n).bp.getD w.toNat dy)) M.said=fV M.objs {f with stack:=cA} M.said ((aM M.objs b.n).bp.getD w.toNat dy):=rfl;simp only[Bool.false_eq_true,if_false];rw[e];exact iZ rfl
  have j:¬(0<=w/\w < (aM (aQ M fs {f with stack:=cA}).objs b.n).bp.length):=h;rw[Ad i c h,if_pos j];exact Rl.EM (by decide) rfl rfl
 rw[Eb i c,tU g d (by show eR u (aM M.objs b.n).cls (-1-k)=true;rw[p];simp[c]),if_pos (.inl rfl)];exact Rl.stuck rfl
def qZ (u:aI) (x:Sx) (n k i:Int) (set:Bool) (v:Vl):Sx :=
 if (aZ u x n k).bad then aZ u x n k else if set=true then CE (aZ u x n k) n i v else cT (aZ u x n k) ((aM (aZ u x n k).objs n).bp.getD i.toNat dy)
theorem kS {u:aI} {x:Sx} {n i k:Int} {set:Bool} {v:Vl} (h:x.st=true):(qZ u x n k i set v).st=true:=by
 have a:=vz u x n k h;unfold qZ;rw[if_pos (.inl a)];exact a
theorem yQ {u:aI} {M:cr} {fs:List cJ} {f:cJ} {x:Sx} {k i a:Int} {b v:Vl} {cA:List Vl} {set:Bool} (p:x=aQ M fs {f with stack:=cA}) (m:0<=k) (q:0<=b.n) :
  Rl (nW M fs f (pZ (match eZ M.objs b.n (up u.ak (aM M.objs b.n).cls k)with
   | .error e=>.error e
   | .ok o=>if set=true then .ok (gU M.objs b.n (putAt o.bp i v),{f with stack:=cA})else ey M.objs {f with stack:=cA} (o.bp.getD i.toNat dy)) M.said) a) (eV (qZ u x b.n k i set v)).res:=by
 subst p;have d:=Ku M fs {f with stack:=cA};unfold qZ;by_cases c:b.n=0
 ·rw[jy c,c,tT d];have:(cj (aQ M fs {f with stack:=cA}) 2).bad:=.inr (by show(0:Int) < 2;decide);rw[if_pos this];exact Rl.EM (by decide) rfl rfl
 have h:0 < b.n:=by omega
 have j:eR u (aM M.objs b.n).cls k = !up u.ak (aM M.objs b.n).cls k:=by
  unfold eR;cases g:up u.ak (aM M.objs b.n).cls k with
  | true =>
   have:=lT g;simp[show ¬k < 0 by omega,this]
  | false=>simp[m]
 cases g:up u.ak (aM M.objs b.n).cls k with
 | true =>
  rw[qY d c (by show eR u (aM M.objs b.n).cls k=false;rw[j,g];rfl),if_neg d,jg h rfl];cases set with
  | true=>exact Rl.ok rfl
  | false =>
   have e:pZ (ey M.objs {f with stack:=cA} ((aM M.objs b.n).bp.getD i.toNat dy)) M.said=fV M.objs {f with stack:=cA} M.said ((aM M.objs b.n).bp.getD i.toNat dy):=rfl;simp only[Bool.false_eq_true,if_false];rw[e];exact iZ rfl
 | false =>
  rw[tU d c (by show eR u (aM M.objs b.n).cls k=true;rw[j,g];rfl),if_pos (.inl rfl),jx h rfl];exact Rl.stuck rfl
theorem CI (u:aI) (M:cr) (fs:List cJ) (f:cJ) (k a b:Int) (N:12<=k/\k<=19) (z:∀ v∈f.stack,jz M.objs.length v) (J:k=13\/k=15\/k=16->a=0\/a=1) (K:k=12\/k=17\/k=18\/k=19->0<=a) :
  Rl (match eI u ⟨k,a,b⟩ f.stack with
   | none=>.error 0
   | some (ki,rest)=>nW M fs f (lU u ⟨k,a,b⟩ ki M.objs {f with stack:=rest} M.said) a) (mX u (aQ M fs f) ⟨k,a,b⟩):=by
 simp only[yP N];unfold mX;rw[EN N];obtain⟨d,e,c,cA⟩:=f;simp only at z ⊢;have R:k=12\/k=13\/k=14\/k=15\/k=16\/k=17\/k=18\/k=19:=by omega
 rcases R with rfl|rfl|rfl|rfl|rfl|rfl|rfl|rfl
 ·rw[yO rfl];exact EP (f:=⟨d,e,c,cA⟩) rfl
 ·
  have m:∀ x:Sx,fG u x ⟨13,a,b⟩=ko x a:=λx=>rfl;rw[m];have bad:∀ x:Sx,(aD x).2.st=true->(ko x a).st=true:=λx t=>by
   unfold ko;refine EL _ _ ?_;split
   ·exact t
   exact nK _ _ t
  rcases fW cA with rfl|⟨l,v,rfl⟩
  ·rw[jJ rfl];exact Rl.stuck (bad _ (iC (x:=aQ M fs ⟨d,e,c,[]⟩) rfl))
  rw[mV rfl];cases g:v.ref with
  | true =>
   rw[if_neg (by simp[iX,g])];exact Rl.stuck (bad _ (fq (x:=aQ M fs ⟨d,e,c,l++[v]⟩) rfl g))
  | false =>
   rw[if_pos (by simp[iX,g])];have j:aD (aQ M fs ⟨d,e,c,l++[v]⟩)=(v.n,aQ M fs ⟨d,e,c,l⟩):=fQ (x:=aQ M fs ⟨d,e,c,l++[v]⟩) rfl g;have p:ko (aQ M fs ⟨d,e,c,l++[v]⟩) a=gH (if 0<=v.n/\v.n<=6 then aQ M fs ⟨d,e,c,l⟩else cj (aQ M fs ⟨d,e,c,l⟩) 4) (jB a v.n):=by
    unfold ko;rw[j]
   rw[p];have G:gr u ⟨13,a,b⟩ [v] M.objs ⟨d,e,c,l⟩=if 0<=v.n/\v.n<=6 then uM (qT a) (List.replicate v.n.toNat (if a=0 then 1 else 8)) M.objs ⟨d,e,c,l⟩else .error 4:=rfl
   show Rl (nW M fs _ (pZ (gr u ⟨13,a,b⟩ [v] M.objs ⟨d,e,c,l⟩) M.said) a) _;rw[G];by_cases C:0<=v.n/\v.n<=6
   ·rw[if_pos C,if_pos C];have Q:(⟨qT a,(List.replicate v.n.toNat (if a=0 then 1 else 8)).map nothing⟩:Ob)=jB a v.n:=by
     unfold jB qT;have S:min v.n 6=v.n:=by omega
     rw[S];rcases J Z with rfl|rfl
     ·simp[nothing]
     simp[nothing]
    unfold uM;rw[Q];exact EP (f:=⟨d,e,c,l++[v]⟩) rfl
   rw[if_neg C,if_neg C,ER (.inr (by show(0:Int) < 4;decide))];exact Rl.EM (by decide) rfl rfl
 ·
  have m:∀ x:Sx,fG u x ⟨14,a,b⟩=oq x:=λx=>rfl;rw[m];have bad:∀ x:Sx,(aE x).2.st=true->(oq x).st=true:=λx t=>by
   unfold oq;simp only;split
   ·rfl
   split
   ·exact nK _ _ t
   exact mS _ _ t
  rcases fW cA with rfl|⟨l,v,rfl⟩
  ·rw[jJ rfl];exact Rl.stuck (bad _ (jZ (x:=aQ M fs ⟨d,e,c,[]⟩) rfl))
  rw[mV rfl];have s:=z v Z;cases g:v.ref with
  | false =>
   rw[if_neg (by simp[iX,g])];exact Rl.stuck (bad _ (j0 (x:=aQ M fs ⟨d,e,c,l++[v]⟩) rfl g))
  | true =>
   rw[if_pos (by simp[iX,g])];have V:=s.1 g;have j:aE (aQ M fs ⟨d,e,c,l++[v]⟩)=(v.n,aQ M fs ⟨d,e,c,l⟩):=mU (x:=aQ M fs ⟨d,e,c,l++[v]⟩) rfl g;have p:oq (aQ M fs ⟨d,e,c,l++[v]⟩)=if 0 < v.n/\(aQ M fs ⟨d,e,c,l⟩).st=false/\0<=(aM M.objs v.n).cls then {aQ M fs ⟨d,e,c,l⟩with st:=true}else if v.n=0 then cj (aQ M fs ⟨d,e,c,l⟩) 2 else cT (aQ M fs ⟨d,e,c,l⟩) ⟨false,(aM M.objs v.n).bp.length⟩:=by
    unfold oq;simp only[j];rfl
   rw[p];show Rl (nW M fs _ (pZ (match eZ M.objs v.n (decide ((aM M.objs v.n).cls < 0))with
    | .error P=>.error P
    | .ok T=>ey M.objs ⟨d,e,c,l⟩ ⟨false,T.bp.length⟩) M.said) a) _
   by_cases H:v.n=0
   ·rw[jy H,if_neg O,if_pos H];exact Rl.EM (by decide) rfl rfl
   have I:0 < v.n:=by omega
   by_cases L:(aM M.objs v.n).cls < 0
   ·rw[jg I (by simp[L]),if_neg O,if_neg H];exact iZ (f:=⟨d,e,c,l++[v]⟩) rfl
   rw[jx I (by simp[L]),if_pos ⟨I,rfl,O⟩];exact Rl.stuck rfl
 ·
  have m:∀ x:Sx,fG u x ⟨15,a,b⟩=vB u (aE (aD x).2).2 (aE (aD x).2).1 (aD x).1 a false dy:=λx=>rfl;rw[m];rcases fW cA with rfl|⟨w,i,rfl⟩
  ·rw[mW rfl Z];exact Rl.stuck (gN (jY _ (iC (x:=aQ M fs ⟨d,e,c,[]⟩) rfl)))
  rcases fW w with rfl|⟨l,h,rfl⟩
  ·rw[mW rfl Z];refine Rl.stuck (gN ?_);cases g:i.ref with
   | true=>exact jY _ (fq (x:=aQ M fs ⟨d,e,c,[]++[i]⟩) rfl g)
   | false=>rw[fQ (x:=aQ M fs ⟨d,e,c,[]++[i]⟩) rfl g];exact jZ rfl
  rw[List.append_assoc];have A:l++([h]++[i])=l++[h,i]:=rfl;rw[A,BF rfl];have B:(aQ M fs ⟨d,e,c,l++[h,i]⟩).f.stack=(l++[h])++[i]:=by simp[aQ]
  have s:=z h Z;cases q:i.ref with
  | true =>
   rw[if_neg (by simp[iX,q])];exact Rl.stuck (gN (jY _ (fq B q)))
  | false =>
   have j:=fQ B q;cases o:h.ref with
   | false =>
    rw[if_neg (by simp[iX,o])];refine Rl.stuck (gN ?_);rw[j];exact j0 (l:=l) (v:=h) rfl o
   | true =>
    rw[if_pos (by simp[iX,o,q])];have p:aE (aD (aQ M fs ⟨d,e,c,l++[h,i]⟩)).2=(h.n,aQ M fs ⟨d,e,c,l⟩):=by
     rw[j];exact mU (l:=l) (v:=h) rfl o
    rw[p,j];exact BG (f:=⟨d,e,c,l++[h,i]⟩) (set:=false) (v:=dy) rfl (J Z) (s.1 o).1
 ·
  have m:∀ x:Sx,fG u x ⟨16,a,b⟩=vB u (aE (aD (aU x).2).2).2 (aE (aD (aU x).2).2).1 (aD (aU x).2).1 a true (aU x).1:=λx=>rfl;rw[m];rcases fW cA with rfl|⟨E,y,rfl⟩
  ·rw[At rfl Z];exact Rl.stuck (gN (jY _ (jI _ (mT (x:=aQ M fs ⟨d,e,c,[]⟩) rfl))))
  have F:aU (aQ M fs ⟨d,e,c,E++[y]⟩)=(y,aQ M fs ⟨d,e,c,E⟩):=e8 (x:=aQ M fs ⟨d,e,c,E++[y]⟩) rfl;rw[F];rcases fW E with rfl|⟨w,i,rfl⟩
  ·rw[At rfl Z];exact Rl.stuck (gN (jY _ (iC (x:=aQ M fs ⟨d,e,c,[]⟩) rfl)))
  rcases fW w with rfl|⟨l,h,rfl⟩
  ·rw[At rfl Z];refine Rl.stuck (gN ?_);cases g:i.ref with
   | true=>exact jY _ (fq (x:=aQ M fs ⟨d,e,c,[]++[i]⟩) rfl g)
   | false=>rw[fQ (x:=aQ M fs ⟨d,e,c,[]++[i]⟩) rfl g];exact jZ rfl
  have A:l++[h]++[i]++[y]=l++[h,i,y]:=by simp
  have s:=z h Z;rw[A,M9 rfl];have B:(aQ M fs ⟨d,e,c,l++[h]++[i]⟩).f.stack=(l++[h])++[i]:=rfl;cases q:i.ref with
  | true =>
   rw[if_neg (by simp[iX,q])];exact Rl.stuck (gN (jY _ (fq B q)))
  | false =>
   have j:=fQ B q;cases o:h.ref with
   | false =>
    rw[if_neg (by simp[iX,o])];refine Rl.stuck (gN ?_);rw[j];exact j0 (l:=l) (v:=h) rfl o
   | true =>
    rw[if_pos (by simp[iX,o,q])];have p:aE (aD (aQ M fs ⟨d,e,c,l++[h]++[i]⟩)).2=(h.n,aQ M fs ⟨d,e,c,l⟩):=by
     rw[j];exact mU (l:=l) (v:=h) rfl o
    rw[p,j];exact BG (f:=⟨d,e,c,l++[h,i,y]⟩) (set:=true) (v:=y) rfl (J Z) (s.1 o).1
 ·
  have m:∀ x:Sx,fG u x ⟨17,a,b⟩=qZ u (aE x).2 (aE x).1 a b false dy:=λx=>rfl;rw[m];rcases fW cA with rfl|⟨l,v,rfl⟩
  ·rw[jJ rfl];exact Rl.stuck (kS (jZ (x:=aQ M fs ⟨d,e,c,[]⟩) rfl))
  rw[mV rfl];have s:=z v Z;cases g:v.ref with
  | false =>
   rw[if_neg (by simp[iX,g])];exact Rl.stuck (kS (j0 (x:=aQ M fs ⟨d,e,c,l++[v]⟩) rfl g))
  | true =>
   rw[if_pos (by simp[iX,g]),mU (x:=aQ M fs ⟨d,e,c,l++[v]⟩) rfl g];exact yQ (f:=⟨d,e,c,l++[v]⟩) (set:=false) (v:=dy) rfl (K Z) (s.1 g).1
 ·
  have m:∀ x:Sx,fG u x ⟨18,a,b⟩=qZ u (aE (aU x).2).2 (aE (aU x).2).1 a b true (aU x).1:=λx=>rfl;rw[m];rcases fW cA with rfl|⟨w,i,rfl⟩
  ·rw[mW rfl Z];exact Rl.stuck (kS (jY _ (mT (x:=aQ M fs ⟨d,e,c,[]⟩) rfl)))
  have F:aU (aQ M fs ⟨d,e,c,w++[i]⟩)=(i,aQ M fs ⟨d,e,c,w⟩):=e8 (x:=aQ M fs ⟨d,e,c,w++[i]⟩) rfl;rw[F];rcases fW w with rfl|⟨l,h,rfl⟩
  ·rw[mW rfl Z];exact Rl.stuck (kS (jZ (x:=aQ M fs ⟨d,e,c,[]⟩) rfl))
  have A:l++[h]++[i]=l++[h,i]:=by simp
  have s:=z h Z;rw[A,BF rfl];cases g:h.ref with
  | false =>
   rw[if_neg (by simp[iX,g])];exact Rl.stuck (kS (j0 (x:=aQ M fs ⟨d,e,c,l++[h]⟩) rfl g))
  | true =>
   rw[if_pos (by simp[iX,g]),mU (x:=aQ M fs ⟨d,e,c,l++[h]⟩) rfl g];exact yQ (f:=⟨d,e,c,l++[h,i]⟩) (set:=true) (v:=i) rfl (K Z) (s.1 g).1
 
 have m:∀ x:Sx,fG u x ⟨19,a,b⟩=ox u x a:=λx=>rfl;rw[m];have bad:∀ x:Sx,(aE x).2.st=true->(ox u x a).st=true:=λx t=>by
  unfold ox;simp only;rw[if_pos t];exact t
 rcases fW cA with rfl|⟨l,v,rfl⟩
 ·rw[jJ rfl];exact Rl.stuck (bad _ (jZ (x:=aQ M fs ⟨d,e,c,[]⟩) rfl))
 rw[mV rfl];cases g:v.ref with
 | false =>
  rw[if_neg (by simp[iX,g])];exact Rl.stuck (bad _ (j0 (x:=aQ M fs ⟨d,e,c,l++[v]⟩) rfl g))
 | true =>
  rw[if_pos (by simp[iX,g])];have j:aE (aQ M fs ⟨d,e,c,l++[v]⟩)=(v.n,aQ M fs ⟨d,e,c,l⟩):=mU (x:=aQ M fs ⟨d,e,c,l++[v]⟩) rfl g;have p:ox u (aQ M fs ⟨d,e,c,l++[v]⟩) a=if 0 < v.n/\dQ u.ak (typeOf (aM M.objs v.n).cls) (8+a)=false then cj (aQ M fs ⟨d,e,c,l⟩) 5 else cT (aQ M fs ⟨d,e,c,l⟩) ⟨true,v.n⟩:=by
   unfold ox;simp only[j];rfl
  rw[p];have G:(⟨true,v.n⟩:Vl)=v:=by cases v;simp only at g;rw[g]
  show Rl (nW M fs _ (pZ (if 0 < v.n/\dQ u.ak (typeOf (aM M.objs v.n).cls) (8+a)=false then .error 5 else ey M.objs ⟨d,e,c,l⟩ v) M.said) a) _;by_cases D:0 < v.n/\dQ u.ak (typeOf (aM M.objs v.n).cls) (8+a)=false
  ·rw[if_pos D,if_pos D];exact Rl.EM (by decide) rfl rfl
  rw[if_neg D,if_neg D,G];exact iZ (f:=⟨d,e,c,l++[v]⟩) rfl
theorem wU:∀(n:Nat) (l:List Vl),iX (List.replicate n 0) l=true
 | 0,_=>rfl
 | n+1,[]=>rfl
 | n+1,v::l=>by simp[List.replicate_succ,iX,wU n l]
def p0 (x:Sx) (i:dc):cr × Bool × Int:=if (er (eV x) i).1=true then ({ (er (eV x) i).2 with f:={ (er (eV x) i).2.f with pc:=i.a} }:Sx).res else (er (eV x) i).2.res
theorem BH {x:Sx} {i:dc} (h:(er (eV x) i).2.st=true):(p0 x i).2.1=true:=by
 unfold p0;split<;>exact h
theorem Hi (u:aI) (M:cr) (fs:List cJ) (f:cJ) (k a b:Int) (J:8<=k/\k<=11) :
  Rl (match eI u ⟨k,a,b⟩ f.stack with
   | none=>.error 0
   | some (ki,rest)=>nW M fs f (lU u ⟨k,a,b⟩ ki M.objs {f with stack:=rest} M.said) a) (p0 (aQ M fs f) ⟨k,a,b⟩):=by
 obtain⟨d,e,c,cA⟩:=f;simp only;have w:eV (aQ M fs ⟨d,e,c,cA⟩)=aQ M fs ⟨d,e+1,c,cA⟩:=rfl;have p:∀(o:Bool) (l:List Vl),er (eV (aQ M fs ⟨d,e,c,cA⟩)) ⟨k,a,b⟩=(o,aQ M fs ⟨d,e+1,c,l⟩)->Rl (nW M fs ⟨d,e,c,cA⟩ (.ok (M.objs,⟨d,e,c,l⟩,M.said,o)) a) (p0 (aQ M fs ⟨d,e,c,cA⟩) ⟨k,a,b⟩):=by
  intro o l j;unfold p0;rw[j];cases o with
  | true=>exact Rl.ok rfl
  | false=>exact Rl.ok rfl
 have two:∀(z:Int->Int->Bool),(∀ x:Sx,er x ⟨k,a,b⟩=(z (aD (aD x).2).1 (aD x).1,(aD (aD x).2).2))->gT u ⟨k,a,b⟩=some [1,1]->(∀ h g C f D,lU u ⟨k,a,b⟩ [h,g] C f D=.ok (C,f,D,z h.n g.n)) ->
   Rl (match eI u ⟨k,a,b⟩ cA with
    | none=>.error 0
    | some (ki,rest)=>nW M fs ⟨d,e,c,cA⟩ (lU u ⟨k,a,b⟩ ki M.objs ⟨d,e,c,rest⟩ M.said) a) (p0 (aQ M fs ⟨d,e,c,cA⟩) ⟨k,a,b⟩):=by
  intro z m y H;have bad:(aD (aD (aQ M fs ⟨d,e+1,c,cA⟩)).2).2.st=true->(p0 (aQ M fs ⟨d,e,c,cA⟩) ⟨k,a,b⟩).2.1=true:=λj=>BH (by rw[w,m];exact j);rcases fW cA with rfl|⟨I,g,rfl⟩
  ·rw[mW y Z];exact Rl.stuck (bad (jI _ (iC rfl)))
  rcases fW I with rfl|⟨l,h,rfl⟩
  ·rw[mW y Z];refine Rl.stuck (bad ?_);cases i:g.ref with
   | true=>exact jI _ (fq (l:=[]) (v:=g) rfl i)
   | false=>rw[fQ (x:=aQ M fs ⟨d,e+1,c,[]++[g]⟩) (l:=[]) (v:=g) rfl i];exact iC rfl
  have G:l++[h]++[g]=l++[h,g]:=by simp
  rw[G]at bad p ⊢;rw[BF y];have B:(aQ M fs ⟨d,e+1,c,l++[h,g]⟩).f.stack=(l++[h])++[g]:=by simp[aQ]
  cases s:g.ref with
  | true =>
   rw[if_neg (by simp[iX,s])];exact Rl.stuck (bad (jI _ (fq B s)))
  | false =>
   have t:=fQ B s;cases q:h.ref with
   | true =>
    rw[if_neg (by simp[iX,q])];refine Rl.stuck (bad ?_);rw[t];exact fq (l:=l) (v:=h) rfl q
   | false =>
    rw[if_pos (by simp[iX,q,s])];show Rl (nW M fs _ (lU u ⟨k,a,b⟩ [h,g] M.objs ⟨d,e,c,l⟩ M.said) a) _;rw[H];refine p _ l ?_;rw[show eV (aQ M fs ⟨d,e,c,l++[h,g]⟩)=aQ M fs ⟨d,e+1,c,l++[h,g]⟩from rfl,m];have E:aD (aD (aQ M fs ⟨d,e+1,c,l++[h,g]⟩)).2=(h.n,aQ M fs ⟨d,e+1,c,l⟩):=by
     rw[t];exact fQ (l:=l) (v:=h) rfl q
    rw[E,t]
 have F:k=8\/k=9\/k=10\/k=11:=by omega
 rcases F with rfl|rfl|rfl|rfl
 ·exact two (λx A=>decide (x < A)) (λ_=>rfl) rfl (λ_ _ _ _ _=>rfl)
 ·exact two (λx A=>decide (x=A)) (λ_=>rfl) rfl (λ_ _ _ _ _=>rfl)
 ·have m:∀ x:Sx,er x ⟨10,a,b⟩=(decide ((aE x).1=0),(aE x).2):=λ_=>rfl;have bad:(aE (aQ M fs ⟨d,e+1,c,cA⟩)).2.st=true->(p0 (aQ M fs ⟨d,e,c,cA⟩) ⟨10,a,b⟩).2.1=true:=λj=>BH (by rw[w,m];exact j);rcases fW cA with rfl|⟨l,v,rfl⟩
  ·rw[jJ rfl];exact Rl.stuck (bad (jZ rfl))
  rw[mV rfl];cases i:v.ref with
  | false =>
   rw[if_neg (by simp[iX,i])];exact Rl.stuck (bad (j0 (l:=l) (v:=v) rfl i))
  | true =>
   rw[if_pos (by simp[iX,i])];refine p (decide (v.n=0)) l ?_;rw[w,m,mU (x:=aQ M fs ⟨d,e+1,c,l++[v]⟩) (l:=l) (v:=v) rfl i];rfl
 rw[yO rfl];exact p true cA rfl
theorem Hj (u:aI) (M:cr) (fs:List cJ) (f:cJ) (a b:Int) :
  Rl (match eI u ⟨22,a,b⟩ f.stack with
   | none=>.error 0
   | some (ki,rest)=>iI u ⟨22,a,b⟩ ki fs {M with aq:=fs++[{f with stack:=rest}]}) (rP (aQ M fs f)):=by
 obtain⟨d,e,c,cA⟩:=f;simp only;rcases fW cA with rfl|⟨l,v,rfl⟩
 ·rw[jJ rfl];unfold rP;have j:=mT (x:=aQ M fs ⟨d,e,c,[]⟩) rfl;simp only;rw[if_pos j];exact Rl.stuck j
 rw[mV rfl];unfold rP;have m:aU (aQ M fs ⟨d,e,c,l++[v]⟩)=(v,aQ M fs ⟨d,e,c,l⟩):=e8 (x:=aQ M fs ⟨d,e,c,l++[v]⟩) rfl;rw[m,if_pos (by simp[iX])];simp only;rw[if_neg (by simp[aQ])];show Rl (pP v fs {M with aq:=fs++[⟨d,e,c,l⟩]}) (match fs.getLast? with
  | none=>_
  | some g=>_)
 rcases List.eq_nil_or_concat fs with rfl|⟨h,g,rfl⟩
 ·exact Rl.ok rfl
 rw[List.concat_eq_append,vl];have p:(h++[g]).getLast? = some g:=by simp
 have o:(h++[g]).dropLast=h:=by simp
 rw[p];simp only;by_cases i:g.stack.length < 4
 ·rw[if_pos i,mR (x:={aQ M (h++[g]) ⟨d,e,c,l⟩with fs:=(aQ M (h++[g]) ⟨d,e,c,l⟩).fs.dropLast,f:=g}) i];refine Rl.ok ?_;simp only[aQ,Sx.res,Sx.wO,o]
 rw[if_neg i,kQ (x:={aQ M (h++[g]) ⟨d,e,c,l⟩with fs:=(aQ M (h++[g]) ⟨d,e,c,l⟩).fs.dropLast,f:=g}) (by show 4<=g.stack.length;omega)];exact Rl.stuck rfl
theorem ES (u:aI) (M:cr) (fs:List cJ) (f:cJ) (a b:Int) (o:∀ v∈f.stack,jz M.objs.length v) :
  Rl (match eI u ⟨23,a,b⟩ f.stack with
   | none=>.error 0
   | some (ki,rest)=>iI u ⟨23,a,b⟩ ki fs {M with aq:=fs++[{f with stack:=rest}]})
   (if (aE (aQ M fs f)).1=0 then (cj (aE (aQ M fs f)).2 2).res else if (aE (aQ M fs f)).2.st=false then jF u (aE (aQ M fs f)).1 (aE (aQ M fs f)).2.wO (aE (aQ M fs f)).2.st (aE (aQ M fs f)).2.ft else (aE (aQ M fs f)).2.res):=by
 obtain⟨e,g,d,cA⟩:=f;simp only at o ⊢;have bad:∀ x:Sx,(aE x).2.st=true->Rl (.error 0) (if (aE x).1=0 then (cj (aE x).2 2).res else if (aE x).2.st=false then jF u (aE x).1 (aE x).2.wO (aE x).2.st (aE x).2.ft else (aE x).2.res):=by
  intro x h;split
  ·exact Rl.stuck (nK _ _ h)
  rw[if_neg (by rw[h];simp)];exact Rl.stuck h
 rcases fW cA with rfl|⟨l,v,rfl⟩
 ·rw[jJ rfl];exact bad _ (jZ rfl)
 rw[mV rfl];have s:=o v Z;cases c:v.ref with
 | false =>
  rw[if_neg (by simp[iX,c])];exact bad _ (j0 (l:=l) (v:=v) rfl c)
 | true =>
  rw[if_pos (by simp[iX,c])];have t:=s.1 c;have q:aE (aQ M fs ⟨e,g,d,l++[v]⟩)=(v.n,aQ M fs ⟨e,g,d,l⟩):=mU (x:=aQ M fs ⟨e,g,d,l++[v]⟩) rfl c;rw[q];show Rl (match eZ M.objs v.n (up u.ak (aM M.objs v.n).cls 1)with
   | .error p=>.error p
   | .ok _=>.ok (dA u v.n {M with aq:=fs++[⟨e,g,d,l⟩]})) _
  simp only;by_cases i:v.n=0
  ·rw[jy i,if_pos i];exact Rl.EM (by decide) rfl rfl
  have m:0 < v.n:=by omega
  rw[if_neg i,if_pos (show(aQ M fs ⟨e,g,d,l⟩).st=false from rfl)];unfold jF;cases j:up u.ak (aM M.objs v.n).cls 1 with
  | true =>
   have:=lT j;rw[jg m rfl,if_neg (by
    show ¬((aM M.objs v.n).cls < 0\/up u.ak (aM M.objs v.n).cls 1=false);rw[j];simp;omega)]
   exact Rl.ok rfl
  | false =>
   rw[jx m rfl,if_pos (.inr j)];exact Rl.stuck rfl
theorem Hl (u:aI) (M:cr) (fs:List cJ) (f:cJ) (a b:Int) (i:fs.length+1<=4) :
  Rl (match eI u ⟨20,a,b⟩ f.stack with
   | none=>.error 0
   | some (ki,rest)=>iI u ⟨20,a,b⟩ ki fs {M with aq:=fs++[{f with stack:=rest}]}) (gV u (aQ M fs f) ⟨20,a,b⟩):=by
 have c:bG u ⟨20,a,b⟩=(bz u a).args.length:=rfl;have h:gT u ⟨20,a,b⟩=some (List.replicate (bz u a).args.length 0):=rfl;unfold eI;rw[h];simp only[List.length_replicate];by_cases e:f.stack.length < (bz u a).args.length
 ·rw[if_pos e];unfold gV;rw[if_pos (.inr (by rw[c];show(f.stack.length:Int) < _;omega))];exact Rl.stuck rfl
 rw[if_neg e,if_pos (wU _ _)];have g:¬(bG u ⟨20,a,b⟩ < 0\/((aQ M fs f).f.stack.length:Int) < bG u ⟨20,a,b⟩):=by
  rw[c];show ¬(((bz u a).args.length:Int) < 0\/(f.stack.length:Int) < (bz u a).args.length);omega
 rw[yL g,c];show Rl (iA u a _ _) _;unfold iA;by_cases d:fs.length+1=4
 ·rw[if_pos (by simp;omega),if_pos (show(aQ M fs f).fs.length+1=4 from d)];exact Rl.EM (by decide) rfl rfl
 rw[if_neg (by simp;omega),if_neg (show ¬(aQ M fs f).fs.length+1=4 from d)];exact Rl.ok rfl
theorem Ho (u:aI) (M:cr) (fs:List cJ) (f:cJ) (a b:Int) (I:fs.length+1<=4) (y:0<=a) (E:∀ v∈f.stack,jz M.objs.length v) :
  Rl (match eI u ⟨21,a,b⟩ f.stack with
   | none=>.error 0
   | some (ki,rest)=>iI u ⟨21,a,b⟩ ki fs {M with aq:=fs++[{f with stack:=rest}]}) (gV u (aQ M fs f) ⟨21,a,b⟩):=by
 have d:bG u ⟨21,a,b⟩=if 0<=find u a b then ((bz u (find u a b)).args.length:Int)+1 else -1:=rfl
 have D:gT u ⟨21,a,b⟩=if find u a b < 0 then none else some (2::List.replicate (bz u (find u a b)).args.length 0):=rfl
 unfold eI;rw[D];by_cases s:find u a b < 0
 ·rw[if_pos s];rw[if_neg O]at d;unfold gV;rw[if_pos (.inl (by rw[d];decide))];exact Rl.stuck rfl
 rw[if_neg s];rw[if_pos O]at d;simp only[List.length_cons,List.length_replicate];generalize J:(bz u (find u a b)).args.length=n at d ⊢;by_cases t:f.stack.length < n+1
 ·rw[if_pos t];unfold gV;rw[if_pos (.inr (by rw[d];show(f.stack.length:Int) < _;omega))];exact Rl.stuck rfl
 rw[if_neg t];have C:¬(bG u ⟨21,a,b⟩ < 0\/((aQ M fs f).f.stack.length:Int) < bG u ⟨21,a,b⟩):=by
  rw[d];show ¬((n:Int)+1 < 0\/(f.stack.length:Int) < (n:Int)+1);omega
 have w:(aQ M fs f).f.stack.length-(bG u ⟨21,a,b⟩).toNat=f.stack.length-(n+1):=by rw[d];rfl
 obtain⟨c,r,e⟩:∃ c r,f.stack.drop (f.stack.length-(n+1))=c::r:=by
  cases z:f.stack.drop (f.stack.length-(n+1))with
  | nil=>have:=congrArg List.length z;simp at this;omega
  | cons c r=>exact⟨c,r,rfl⟩
 have B:((aQ M fs f).f.stack.drop ((aQ M fs f).f.stack.length-(bG u ⟨21,a,b⟩).toNat)).getD 0 dy=c:=by
  rw[w];show(f.stack.drop _).getD 0 dy=c;rw[e];rfl
 have q:=yM C B;rw[w]at q;rw[q];have F:c∈f.stack:=by
  have:c∈f.stack.drop (f.stack.length-(n+1)):=by rw[e];simp
  exact List.mem_of_mem_drop this
 have G:=E c F;have h:=Ku M fs f;cases j:c.ref with
 | false =>
  rw[if_neg (by rw[e];simp[iX,j]),if_pos rfl];exact Rl.stuck rfl
 | true =>
  have K:=G.1 j;rw[if_pos (by rw[e];simp[iX,j,wU]),if_neg Z];show Rl (match eZ M.objs ((f.stack.drop (f.stack.length-(n+1))).getD 0 dy).n (up u.ak (aM M.objs ((f.stack.drop (f.stack.length-(n+1))).getD 0 dy).n).cls a)with
   | .error x=>.error x
   | .ok H=>iA u (find u H.cls b) (f.stack.drop (f.stack.length-(n+1))) {M with aq:=fs++[{f with stack:=f.stack.take (f.stack.length-(n+1))}]}) _
  have A:(f.stack.drop (f.stack.length-(n+1))).getD 0 dy=c:=by rw[e];rfl
  rw[A];by_cases g:c.n=0
  ·rw[jy g,g,tT h,if_pos (.inr (by show(0:Int) < 2;decide))];exact Rl.EM (by decide) rfl rfl
  have m:0 < c.n:=by omega
  have p:eR u (aM M.objs c.n).cls a = !up u.ak (aM M.objs c.n).cls a:=by
   unfold eR;cases i:up u.ak (aM M.objs c.n).cls a with
   | true =>
    have:=lT i;simp[show ¬a < 0 by omega,this]
   | false=>simp[y]
  cases i:up u.ak (aM M.objs c.n).cls a with
  | true =>
   rw[qY h g (by show eR u (aM M.objs c.n).cls a=false;rw[p,i];rfl),if_neg h,jg m rfl];show Rl (iA u _ _ _) _;unfold iA;by_cases o:fs.length+1=4
   ·rw[if_pos (by simp;omega),if_pos (show(aQ M fs f).fs.length+1=4 from o)];exact Rl.EM (by decide) rfl rfl
   rw[if_neg (by simp;omega),if_neg (show ¬(aQ M fs f).fs.length+1=4 from o)];exact Rl.ok rfl
  | false =>
   rw[tU h g (by show eR u (aM M.objs c.n).cls a=true;rw[p,i];rfl),if_pos (.inl rfl),jx m rfl];exact Rl.stuck rfl
def Hp (u:aI) (M:cr) (fs:List cJ) (f:cJ):cr × Bool × Int :=
 if f.pc=(bz u f.aG).code.length then (M,true,0)else tR u (aQ M fs f) ((bz u f.aG).code.getD f.pc.toNat dR)
theorem Hq (u:aI) (M:cr) (fs:List cJ) (f:cJ) (B:bS u) (h:kn u M) (j:M.aq=fs++[f]):Rl (vn u fs f M) (Hp u M fs f):=by
 have d:=h.jX f (by rw[j];simp);have m:fs.length+1<=4:=by have:=h.nf;rw[j]at this;simpa using this
 unfold Hp;by_cases s:f.pc=(bz u f.aG).code.length
 ·rw[if_pos s];unfold vn;simp only;rw[if_pos O];exact Rl.stuck rfl
 rw[if_neg s];have I:=d.2.1;have o:f.pc.toNat < (bz u f.aG).code.length:=by omega
 have D:(bz u f.aG).code.getD f.pc.toNat dR=(bz u f.aG).code[f.pc.toNat]:=by simp[o]
 have c:=(B.bz d.1).2.1.2.2.2.1 _ (x_ o);rw[<-D]at c;have w:vn u fs f M=match eI u ((bz u f.aG).code.getD f.pc.toNat dR) f.stack with
  | none=>.error 0
  | some (ki,rest)=>if 20<=((bz u f.aG).code.getD f.pc.toNat dR).kind/\((bz u f.aG).code.getD f.pc.toNat dR).kind<=23 then iI u ((bz u f.aG).code.getD f.pc.toNat dR) ki fs {M with aq:=fs++[{f with stack:=rest}]}
   else nW M fs f (lU u ((bz u f.aG).code.getD f.pc.toNat dR) ki M.objs {f with stack:=rest} M.said) ((bz u f.aG).code.getD f.pc.toNat dR).a:=by
  unfold vn;simp only;rw[if_neg O];rfl
 rw[w];generalize (bz u f.aG).code.getD f.pc.toNat dR=H at c ⊢;obtain⟨k,a,b⟩:=H;simp only;have g:=d.2.2.2.2.2;have A:tR u (aQ M fs f) ⟨k,a,b⟩=if k=22 then rP (aQ M fs f)
  else if k=20\/k=21 then gV u (aQ M fs f) ⟨k,a,b⟩
  else if k=23 then (if (aE (aQ M fs f)).1=0 then (cj (aE (aQ M fs f)).2 2).res else if (aE (aQ M fs f)).2.st=false then jF u (aE (aQ M fs f)).1 (aE (aQ M fs f)).2.wO (aE (aQ M fs f)).2.st (aE (aQ M fs f)).2.ft else (aE (aQ M fs f)).2.res)
  else if 8<=k/\k<=11 then p0 (aQ M fs f) ⟨k,a,b⟩
  else mX u (aQ M fs f) ⟨k,a,b⟩:=rfl
 rw[A];by_cases t:k=22
 ·subst t;rw[if_pos rfl];simp only[show(20:Int)<=22/\(22:Int)<=23 from by decide,and_self,if_true];exact Hj u M fs f a b
 rw[if_neg t];by_cases E:k=20
 ·subst E;rw[if_pos (.inl rfl)];simp only[show(20:Int)<=20/\(20:Int)<=23 from by decide,and_self,if_true];exact Hl u M fs f a b m
 by_cases F:k=21
 ·subst F;have:=(aS (p:=5) (q:=9) rfl).1 c;simp[bh]at this;rw[if_pos (.inr rfl)];simp only[show(20:Int)<=21/\(21:Int)<=23 from by decide,and_self,if_true];exact Ho u M fs f a b m this.1.1 g
 rw[if_neg O];by_cases v:k=23
 ·subst v;rw[if_pos rfl];simp only[show(20:Int)<=23/\(23:Int)<=23 from by decide,and_self,if_true];exact ES u M fs f a b g
 rw[if_neg v];have z:¬(20<=k/\k<=23):=by omega
 simp only[z,if_false];by_cases i:8<=k/\k<=11
 ·rw[if_pos i];exact Hi u M fs f k a b i
 rw[if_neg i];by_cases G:12<=k/\k<=19
 ·refine CI u M fs f k a b G g (λe=>?_) (λe=>?_)
  ·rcases e with rfl|rfl|rfl;all_goals
    have:=(aS (p:=6) (q:=0) rfl).1 c;simp[bh]at this;exact this.1
  exact(c.iJ.1 e).1
 have x:k=1\/k=2\/k=3\/k=4\/k=5\/k=6\/k=7\/k=24:=by
  obtain⟨p,q,C,_⟩:=c;have y:=qP C;simp only[gS,ek,List.mem_cons,List.not_mem_nil,or_false,Prod.mk.injEq]at y;omega
 exact EO u M fs f k a b x
theorem XM.made {h d e:Heap} {mc:List Value} {M:cr} {B:List Nat} {a:Nat} {t:TypeId} {g:List Value} {u:aI} (own:gZ d mc M B) (nd:Nd B) (s:∀ b∈B,h b=none) (m:h.le d) (f:d a=none) (o:d.le e)
  (v:e a=some (.cells (g++mc++[Value.bool false,Value.int .i64 0]).toArray t (0,0))) (y:dn h g u):XM h e a g u M false 0 B:=by
 have x:a ∉ B:=λc=>by
  obtain⟨q,p⟩:=own.in a c;rw[f]at p;cases p
 refine⟨⟨y_ m o,⟨mc,t,v,own.aK (cS.of_le o _)⟩,?_,λb c=>?_⟩,y⟩
 ·intro i;have:=nd i;by_cases j:a=i
  ·subst j;simp[List.count_eq_zero.2 x]
  simp[j];exact this
 rcases List.mem_cons.1 c with rfl|c
 ·cases w:h b with
  | none=>rfl
  | some q=>rw[m b q w]at f;cases f
 exact s b c
theorem XM.again {h d e f:Heap} {mc:List Value} {M:cr} {B:List Nat} {a:Nat} {t:TypeId} {o:Obj} {g:List Value} {u:aI} {w:Bool} {m:Int} (own:gZ e mc M B) (nd:Nd B) (j:∀ b∈B,d b=none) (q:h.le d) (C:d.le e) (x:d a=some o) (s:h a=none)
  (z:f a=some (.cells (g++mc++[Value.bool w,Value.int .i64 m]).toArray t (0,0))) (aK:∀ b,b≠a->f b=e b) (E:dn h g u):XM h f a g u M w m B:=by
 have v:a ∉ B:=λc=>by have:=j a c;rw[x]at this;cases this
 refine⟨⟨λb F c=>?_,⟨mc,t,z,own.aK λb y o D=>?_⟩,?_,λb c=>?_⟩,E⟩
 ·have:b≠a:=by rintro rfl;rw[s]at c;cases c
  rw[aK b this];exact C _ _ (q _ _ c)
 ·have:b≠a:=by rintro rfl;exact v y
  rw[aK b this];exact D
 ·intro i;have:=nd i;by_cases p:a=i
  ·subst p;simp[List.count_eq_zero.2 v]
  simp[p];exact this
 rcases List.mem_cons.1 c with rfl|c
 ·exact s
 cases A:h b with
 | none=>rfl
 | some o=>have:=j b c;rw[q _ _ A]at this;cases this
theorem XM.out {h0 h:Heap} {g:Nat} {v:List Value} {u:aI} {M:cr} {t:Bool} {o:Int} {B:List Nat} (i:XM h0 h g v u M t o B):∃ e c d a f cs,dP h g 2 7=some (sE e c d a f cs M)/\gZ h (sE e c d a f cs M) M B/\Nd B/\∀ b∈B,h0 b=none:=by
 have j:=i.BB;obtain⟨⟨le,⟨x,y,q,own⟩,nd,m⟩,_⟩:=i;obtain⟨e,c,d,a,f,cs,rfl⟩:=own.sE;refine⟨e,c,d,a,f,cs,?_,own,nd.less λw=>by simp only[X_];omega,λb s=>m b (List.mem_cons_of_mem _ s)⟩;have p:(sE e c d a f cs M).length=7:=rfl;rw[bA q 7 2 (by simp[j,p])];congr 1
 rw[List.append_assoc,List.drop_append_of_le_length O,<-j,List.drop_length,List.nil_append];have:(7:Nat)=(sE e c d a f cs M).length:=rfl;rw[this,List.take_left]
theorem XM.nL {h0 h:Heap} {b:Nat} {g:List Value} {u:aI} {M:cr} {f:Bool} {d n:Int} {B:List Nat} {K:Heap->Prop} (c:XM h0 h b g u M f d B) (o:∀ a,XM h0 a b g u {M with steps:=n} f d B->K a):St h b 5 [.int .i64 n] K:=by
 have p:=c.BB;obtain⟨w,t,s,v,m,_,_,_,q⟩:=c.ma.ints;have e:=(q {M with steps:=n} rfl rfl rfl).1;refine qU m (i:=3) (aR t s v {M with steps:=n}) (by rw[p]) (by simp[aR]) rfl (λa j _=>?_);rw[<-j]at e;exact o a ⟨e,c.un⟩
theorem XM.IT {h0 h:Heap} {b:Nat} {g:List Value} {u:aI} {M:cr} {f:Bool} {d n:Int} {B:List Nat} {K:Heap->Prop} (c:XM h0 h b g u M f d B) (o:∀ a,XM h0 a b g u {M with fin:=n} f d B->K a):St h b 6 [.int .i64 n] K:=by
 have p:=c.BB;obtain⟨w,t,s,v,m,_,_,_,q⟩:=c.ma.ints;have e:=(q {M with fin:=n} rfl rfl rfl).1;refine qU m (i:=4) (aR t s v {M with fin:=n}) (by rw[p]) (by simp[aR]) rfl (λa j _=>?_);rw[<-j]at e;exact o a ⟨e,c.un⟩
theorem q7 {K:Value->Heap->Prop} {E:List PanicEntry->Heap->Prop} (mc:List Value) (M:cr) (h:Heap) (p:yy h mc M)
  (m:∀ a f d e c g cs B,h.le a->gZ a (sE f d e c g cs M) M B->Nd B->(∀ b∈B,h b=none)->K (.agg ⟨sE f d e c g cs M⟩) a):gD prog 55 [.agg ⟨mc⟩] h K E:=cP (vu mc M h p) (λv a o=>by
 obtain⟨i,q,B,rfl,own,nd,j⟩:=o;obtain⟨f,d,e,c,g,cs,rfl⟩:=own.sE;exact⟨i,m a f d e c g cs B i own nd j⟩)
theorem tV {K:Value->Heap->Prop} {E:List PanicEntry->Heap->Prop} (mc:List Value) (M:cr) (h:Heap) (o:yy h mc M)
  (j:∀ a f d e c g cs B,h.le a->gZ a (sE f d e c g cs M) M B->Nd B->(∀ b∈B,h b=none)->K (.agg ⟨sE f d e c g cs M⟩) a):Vc.Call prog 55 [.agg ⟨mc⟩] h K E:=aB (vu mc M h o) (λv a m=>by
 obtain⟨p,q,B,rfl,own,nd,i⟩:=m;obtain⟨f,d,e,c,g,cs,rfl⟩:=own.sE;exact j a f d e c g cs B p own nd i)
def mz (u:aI) (fs:List cJ) (f:cJ) (M:cr):cr:=match vn u fs f M with
 | .ok a=>{a with steps:=M.steps+1}
 | .error k=>if k=0 then {M with fin:=3,steps:=M.steps+1}else {dA u k M with steps:=M.steps+1}
theorem BI {u:aI} {M:cr} {fs:List cJ} {f:cJ} (c:M.aq=fs++[f]) (d:¬(M.fin≠0\/200<=M.steps\/200<=M.said.length\/207<=M.objs.length)):gG u M=mz u fs f M:=by
 rw[Cw c d];unfold mz;cases b:vn u fs f M with
 | ok e=>simp only[CC b]
 | error k =>
  by_cases a:k=0
  ·simp[a]
  simp[a,lX]
theorem CJ (mc us:List Value) (u:aI) (M:cr) (h:Heap) (fs:List cJ) (f:cJ) (hr:yy h mc M) (hu:dn h us u) (I:bS u) (e:kn u M) (hf:M.aq=fs++[f]) (XY:M.fin=0) :
  bq prog 54 [.agg ⟨us⟩,.agg ⟨mc⟩] h λv h'=>h.le h'/\∃ M6 B,v=.agg ⟨M6⟩/\gZ h' M6 (mz u fs f M) B/\Nd B/\∀ b∈B,h b=none:=by
 have CK:=hr;have tH:=hu;have II:=Hq u M fs f I e hf;have Mz:f∈M.aq:=by rw[hf];simp
 have V:=e.jX f Mz;have pS:=e.steps;have XZ:M.aq.length=fs.length+1:=by rw[hf];simp
 have Ly:=e.nf;obtain⟨p,m,q,o,rfl,hcs,lR,jq,hl2⟩:=hu.form;obtain⟨vo,vf,vs,rfl,s1,s2,a,J2,hs⟩:=hr;obtain⟨po,co,rfl,_,_⟩:=a.len;obtain⟨pf,cf,rfl,_,_⟩:=J2.len;obtain⟨ps,cs,Cf⟩:∃ p K,vs=.slice p M.said.length K:=by
  obtain⟨_,_,p,K,ae,_⟩:=hs;exact⟨p,K,by simpa using ae⟩
 subst Cf;have mC:fs.length < M.aq.length:=by omega
 have X0:M.aq[fs.length]=f:=by simp[hf]
 obtain⟨bb,off,xs,hq,e1,v1,v2,rfl,e2,e3⟩:=J2.get mC;rw[X0]at e1 e2 e3;obtain⟨_,_,X1,X2,rfl,_⟩:=e2;obtain⟨_,_,X3,X4,rfl,_⟩:=e3;have hi:f.aG.toNat < u.methods.length:=by have:=V.1;omega
 obtain⟨bu,ou,ms,U2,X5,X6⟩:=lR.get hi;have IN:bz u f.aG=u.methods[f.aG.toNat]:=gY hi (by have:=V.1;omega);obtain⟨p1,c1,p2,c2,p3,c3,p4,c4,e5,k1,k2,k3,k4,k5,k6,k7,k8,d1,d2,d3,d4⟩:=X6.form;subst e5;rw[<-IN]at k6 d2;have Na:rd h bu (ou+f.aG.toNat*8+5)=some (.slice p2 (bz u f.aG).code.length c2):=by rw[IN];exact aJ X5 (i:=5) rfl
 have Gl:=I.bz V.1;have X7:=V.2.1;have Kv:Hp u M fs f=if f.pc=(bz u f.aG).code.length then (M,true,0)else tR u (aQ M fs f) ((bz u f.aG).code.getD f.pc.toNat dR):=rfl
 generalize GU:Hp u M fs f=res at II Kv;have GY:off+(((M.aq.length:Int)-1).toNat)*4=off+fs.length*4:=by omega
 have X8:dP h bb (off+(((M.aq.length:Int)-1).toNat)*4) 4=some [.int .i64 f.aG,.int .i64 f.pc,.slice X1 (List.map dO f.locals).length X2,.slice X3 (List.map dO f.stack).length X4]:=by rw[GY];exact e1
 have Y:(∃ M',res=(M',false,0)/\mz u fs f M = {M' with steps:=M.steps+1})\/(res.2.1=true/\mz u fs f M = {M with fin:=3,steps:=M.steps+1})\/(∃ k,(0 < k/\k<=7)/\res.2.1=false/\res.2.2=k/\mz u fs f M = {dA u k M with steps:=M.steps+1}):=by
  cases hd:vn u fs f M with
  | ok M' =>
   rw[hd]at II;exact .inl ⟨M',II,by unfold mz;rw[hd]⟩
  | error k =>
   rw[hd]at II;have IB:=BA hd;by_cases j:k=0
   ·refine .inr (.inl ⟨?_,by unfold mz;rw[hd];simp[j]⟩);simpa [Rl,j]using II
   refine .inr (.inr ⟨k,IB.resolve_left j,?_⟩);have:res.2.1=false/\res.2.2=k:=by simpa [Rl,j]using II
   exact⟨this.1,this.2,by unfold mz;rw[hd];simp[j]⟩
 generalize mz u fs f M=Mx at Y ⊢;have Nb:f.pc≠(bz u f.aG).code.length->M4 u (aQ M fs f):=λhp=>⟨⟨⟨e.len.1,by show M.objs.length<=300;have:=e.len.2;omega⟩,e.objs,by show fs.length<=3;omega,V,by show(0:Int)<=0;omega⟩,λaa hg=>e.jX aa (by rw[hf];simp;exact .inl hg),rfl,rfl,by show f.pc < ((bz u f.aG).code.length:Int);omega,by show M.said.length<=300;have:=e.mw;omega⟩
 have Sq:(aQ M fs f).wO=M:=by unfold aQ Sx.wO;rw[<-hf]
 have ET:∀ k,0 < k->k<=7->jF u k M false 0=(dA u k M,false,0):=λk h1 h2=>by
  unfold jF;rw[e.low k h1 h2,if_neg];rw[pJ I.1 O (by have:=I.1.1;omega)];simp
 have G5:∀ ad∈u.methods,∀ K∈ad.catches,(0<=K.hi/\K.hi<=1000)/\0<=K.cls:=λad hm K d=>by
  have Gl:=I.2.2.2.1 ad hm;have h1:=Gl.2.2.2 K d;have h2:=Gl.2.1.2.1;obtain⟨q1,q2,q3,_⟩:=h1;omega
 have rR:f.pc≠(bz u f.aG).code.length->∃ bc oc ck ca cb,p2=some ⟨bc,oc,none⟩/\dP h bc (oc+f.pc.toNat*3) 3=some [.int .i64 ck,.int .i64 ca,.int .i64 cb]/\dw u (bz u f.aG) ⟨ck,ca,cb⟩/\(bz u f.aG).code.getD f.pc.toNat dR=⟨ck,ca,cb⟩:=by
  intro hp;have Kw:f.pc.toNat < (bz u f.aG).code.length:=by omega
  obtain⟨bc,oc,UP,G6,f1,f2,f3⟩:=k6.get Kw;have hg:(bz u f.aG).code.getD f.pc.toNat dR=(bz u f.aG).code[f.pc.toNat]:=by simp[Kw]
  subst f2;exact⟨bc,oc,_,_,_,G6,f1,Gl.2.1.2.2.2.1 _ (x_ Kw),hg⟩
 have U3:=Gl.2.1.2.1;refine bE ax func54 WI U rfl ?_;unfold aR;conv=>whnf
 repeat' ((first|exact trivial|apply T_|refine q7 _ M h CK (λh1 X9 Ya Yb Yc Yd Ye B1 l1 Sr Yf Yg=>?_))<;>conv=>whnf)
 refine cZ ([.slice p u.ak.length m,.slice q u.methods.length o]++sE X9 Ya Yb Yc Yd Ye M++[.bool false,.int .i64 0]) rfl (λJ h2 sG ee2 l2 g2=>?_);have zz:XM h h2 J [.slice p u.ak.length m,.slice q u.methods.length o] u M false 0 B1:=XM.made Sr Yf Yg l1 sG l2 g2 tH;have LC:=y_ l1 l2;have Nc:h J=none:=by
  cases g:h J with
  | none=>rfl
  | some ab=>rw[l1 J ab g]at sG;cases sG
 have Ss:=dD LC X8;have EU:=cW LC Na;conv=>whnf
 refine av ?_;conv=>whnf
 refine ay ?_;conv=>whnf
 refine aL hq ?_;conv=>whnf
 refine dZ Ss ?_;conv=>whnf
 repeat' ((first|exact trivial|apply T_|refine ob (by have:=V.1;omega) ?_|refine aL U2 ?_|refine ld EU ?_)<;>conv=>whnf)
 apply aC<;>intro OW;all_goals conv=>whnf
 ·have BJ:res=(M,true,0):=by rw[Kv,if_pos OW]
  refine zz.stuck (λh3 c Gm e3=>?_);obtain⟨B3,Su⟩:∃ B3,B3=B1:=⟨_,rfl⟩
  rw[<-Su]at c;replace c:XM h h3 J [.slice p u.ak.length m,.slice q u.methods.length o] u res.1 res.2.1 res.2.2 B3:=by rw[BJ];exact c
  have F:=c.ma.le;refine Y.elim (λL=>?_) (λY=>Y.elim (λhB=>?_) (λx=>?_))
  ·refine L.elim λM' L=>?_;have D:=L.2;have EV:=L.1;rw[EV]at c;have H:=c.iP.1;have Q:=c.iP.2.1;conv=>whnf
   repeat' ((first|refine ld H ?_|refine ld Q ?_|refine ay ?_|refine av ?_|refine ptr ?_)<;>conv=>whnf)
   refine c.nL (λh4 Nf=>?_);refine Nf.out.elim λz a=>a.elim λt a=>a.elim λy a=>a.elim λs a=>a.elim λA a=>a.elim λw a=>?_;have G:=a.1;conv=>whnf
   refine dZ G ?_;conv=>whnf
   rw[D];exact⟨Nf.ma.le,_,B3,rfl,a.2⟩
  ·have D:=hB.2;rw[hB.1]at c;have H:=c.iP.1;conv=>whnf
   repeat' ((first|refine ld H ?_|refine ay ?_|refine av ?_|refine ptr ?_)<;>conv=>whnf)
   refine tV _ M h3 (CK.le F) (λh4 z t y s A w C P Au Kx R=>?_);refine c.ma.cell.elim λNg d=>d.elim λt3 d=>?_;have uN:=d.1;have Nh:Ng.length=7:=by obtain⟨_,_,_,_,_,_,rfl,_⟩:=d.2;rfl
   conv=>whnf
   refine Bv (P _ _ uN) ([.slice p u.ak.length m,.slice q u.methods.length o]++sE z t y s A w M++[.bool true,.int .i64 res.2.2]) (by simp[Nh]) (mM Z (by rw[Nh];rfl)) (λT e5 S=>?_);have W:XM h T J [.slice p u.ak.length m,.slice q u.methods.length o] u M true res.2.2 C:=XM.again Au Kx R F P uN Nc S (λb X=>by rw[e5];simp only[Heap.set,X,if_false]) tH;conv=>whnf
   refine W.IT (λh6 N=>?_);conv=>whnf
   refine av ?_;conv=>whnf
   refine N.nL (λh7 E=>?_);refine E.out.elim λz a=>a.elim λt a=>a.elim λy a=>a.elim λs a=>a.elim λA a=>a.elim λw a=>?_;have G:=a.1;conv=>whnf
   refine dZ G ?_;conv=>whnf
   rw[D];exact⟨E.ma.le,_,C,rfl,a.2⟩
  refine x.elim λk x=>?_;have j:=x.1;have D:=x.2.2.2;have zy:=ET k j.1 j.2;rw[x.2.1,x.2.2.1]at c;have H:=c.iP.1;have Q:=c.iP.2.1;conv=>whnf
  refine ld H ?_;conv=>whnf
  refine ld Q ?_;conv=>whnf
  refine fD j.1 ?_;conv=>whnf
  refine ld Q ?_;conv=>whnf
  repeat' ((first|exact trivial|apply T_|refine q7 _ M h3 (CK.le F) (λh4 z t y s A w C P Au Kx R=>?_))<;>conv=>whnf)
  refine cZ ([.slice p u.ak.length m,.slice q u.methods.length o]++sE z t y s A w M++[.bool false,.int .i64 0]) rfl (λNi T wB Yh l5 S=>?_);have Ky:∀ b∈C,h b=none:=λb X=>by
   cases g:h b with
   | none=>rfl
   | some ab=>have:=R b X;rw[F b ab g]at this;cases this
  have W:XM h T Ni [.slice p u.ak.length m,.slice q u.methods.length o] u M false 0 C:=XM.made Au Kx Ky (y_ F P) wB l5 S tH;have EW:=wS W I.1 k (by have:=e.len;omega) (by have:=e.len;omega) O (by rw[e.low k j.1 j.2];have:=I.1.1;omega) (λaa hg=>(e.jX aa hg).1) G5;rw[zy]at EW;conv=>whnf
  refine aB EW (λv h6 g=>?_);refine g.elim λB6 g=>?_;have N:XM h h6 Ni [.slice p u.ak.length m,.slice q u.methods.length o] u (dA u k M) false 0 B6:=g.1;have w9:=N.iP.1;conv=>whnf
  refine ld w9 ?_;conv=>whnf
  refine av ?_;conv=>whnf
  refine N.nL (λh7 E=>?_);refine E.out.elim λz a=>a.elim λt a=>a.elim λy a=>a.elim λs a=>a.elim λA a=>a.elim λw a=>?_;have G:=a.1;conv=>whnf
  refine dZ G ?_;conv=>whnf
  rw[D];exact⟨E.ma.le,_,B6,rfl,a.2⟩
 have BJ:res=tR u (aQ M fs f) ((bz u f.aG).code.getD f.pc.toNat dR):=by rw[Kv,if_neg OW]
 refine(rR OW).elim λbc d=>d.elim λoc d=>d.elim λck d=>d.elim λca d=>d.elim λcb d=>?_;have G6:=d.1;have Yi:=dD LC d.2.1;have MN:XS h h2 J [.slice p u.ak.length m,.slice q u.methods.length o] u (aQ M fs f) B1:=by
  show XM h h2 J _ u (aQ M fs f).wO false 0 B1;rw[Sq];exact zz
 have Nj:=Ks MN (Nb OW) I ck ca cb d.2.2.1;rw[d.2.2.2]at BJ;rw[<-BJ]at Nj;repeat' ((first|exact trivial|apply T_|refine ob (by have:=V.1;omega) ?_|refine aL U2 ?_|refine ld EU ?_|refine aL G6 ?_|refine dZ Yi ?_)<;>conv=>whnf)
 refine aB Nj (λv h3 g=>?_);refine g.elim λB3 g=>?_;have c:=g.1;have F:=c.ma.le;refine Y.elim (λL=>?_) (λY=>Y.elim (λhB=>?_) (λx=>?_))
 ·refine L.elim λM' L=>?_;have D:=L.2;have EV:=L.1;rw[EV]at c;have H:=c.iP.1;have Q:=c.iP.2.1;conv=>whnf
  repeat' ((first|refine ld H ?_|refine ld Q ?_|refine ay ?_|refine av ?_|refine ptr ?_)<;>conv=>whnf)
  refine c.nL (λh4 Nf=>?_);refine Nf.out.elim λz a=>a.elim λt a=>a.elim λy a=>a.elim λs a=>a.elim λA a=>a.elim λw a=>?_;have G:=a.1;conv=>whnf
  refine dZ G ?_;conv=>whnf
  rw[D];exact⟨Nf.ma.le,_,B3,rfl,a.2⟩
 ·have D:=hB.2;rw[hB.1]at c;have H:=c.iP.1;conv=>whnf
  repeat' ((first|refine ld H ?_|refine ay ?_|refine av ?_|refine ptr ?_)<;>conv=>whnf)
  refine tV _ M h3 (CK.le F) (λh4 z t y s A w C P Au Kx R=>?_);refine c.ma.cell.elim λNg d=>d.elim λt3 d=>?_;have uN:=d.1;have Nh:Ng.length=7:=by obtain⟨_,_,_,_,_,_,rfl,_⟩:=d.2;rfl
  conv=>whnf
  refine Bv (P _ _ uN) ([.slice p u.ak.length m,.slice q u.methods.length o]++sE z t y s A w M++[.bool true,.int .i64 res.2.2]) (by simp[Nh]) (mM Z (by rw[Nh];rfl)) (λT e5 S=>?_);have W:XM h T J [.slice p u.ak.length m,.slice q u.methods.length o] u M true res.2.2 C:=XM.again Au Kx R F P uN Nc S (λb X=>by rw[e5];simp only[Heap.set,X,if_false]) tH;conv=>whnf
  refine W.IT (λh6 N=>?_);conv=>whnf
  refine av ?_;conv=>whnf
  refine N.nL (λh7 E=>?_);refine E.out.elim λz a=>a.elim λt a=>a.elim λy a=>a.elim λs a=>a.elim λA a=>a.elim λw a=>?_;have G:=a.1;conv=>whnf
  refine dZ G ?_;conv=>whnf
  rw[D];exact⟨E.ma.le,_,C,rfl,a.2⟩
 refine x.elim λk x=>?_;have j:=x.1;have D:=x.2.2.2;have zy:=ET k j.1 j.2;rw[x.2.1,x.2.2.1]at c;have H:=c.iP.1;have Q:=c.iP.2.1;conv=>whnf
 refine ld H ?_;conv=>whnf
 refine ld Q ?_;conv=>whnf
 refine fD j.1 ?_;conv=>whnf
 refine ld Q ?_;conv=>whnf
 repeat' ((first|exact trivial|apply T_|refine q7 _ M h3 (CK.le F) (λh4 z t y s A w C P Au Kx R=>?_))<;>conv=>whnf)
 refine cZ ([.slice p u.ak.length m,.slice q u.methods.length o]++sE z t y s A w M++[.bool false,.int .i64 0]) rfl (λNi T wB Yh l5 S=>?_);have Ky:∀ b∈C,h b=none:=λb X=>by
  cases g:h b with
  | none=>rfl
  | some ab=>have:=R b X;rw[F b ab g]at this;cases this
 have W:XM h T Ni [.slice p u.ak.length m,.slice q u.methods.length o] u M false 0 C:=XM.made Au Kx Ky (y_ F P) wB l5 S tH;have EW:=wS W I.1 k (by have:=e.len;omega) (by have:=e.len;omega) O (by rw[e.low k j.1 j.2];have:=I.1.1;omega) (λaa hg=>(e.jX aa hg).1) G5;rw[zy]at EW;conv=>whnf
 refine aB EW (λv h6 g=>?_);refine g.elim λB6 g=>?_;have N:XM h h6 Ni [.slice p u.ak.length m,.slice q u.methods.length o] u (dA u k M) false 0 B6:=g.1;have w9:=N.iP.1;conv=>whnf
 refine ld w9 ?_;conv=>whnf
 refine av ?_;conv=>whnf
 refine N.nL (λh7 E=>?_);refine E.out.elim λz a=>a.elim λt a=>a.elim λy a=>a.elim λs a=>a.elim λA a=>a.elim λw a=>?_;have G:=a.1;conv=>whnf
 refine dZ G ?_;conv=>whnf
 rw[D];exact⟨E.ma.le,_,B6,rfl,a.2⟩
theorem yR (h:Heap):bq prog 127 [] h λv g=>h.le g/\∃ p c B,v=.slice p 7 c/\ep kN 2 g v (fM 7) B/\Nd B/\∀ b∈B,h b=none:=by
 refine bE ax func127 P6 U rfl ?_;conv=>whnf
 refine cZ [] rfl (λf u x G C q=>?_);conv=>whnf
 refine eF [1,2] [] (λs:Nat × Heap × Option Addr × Nat × List Nat=>s.1<=7/\Acc kN 2 h s.2.1 (.slice s.2.2.1 s.1 s.2.2.2.1) (fM s.1) s.2.2.2.2 []) (λs=>7-s.1)
  (λs=>([.v (.slice s.2.2.1 s.1 s.2.2.2.1),.v (.int .i64 ((s.1:Int)+1))],[],s.2.1))
  (0,u,some ⟨f,0,none⟩,0,[f]) ⟨O,Acc.As C x q Z (λ_=>Z) Z Z⟩ rfl ?_
 rintro⟨i,H,L,F,B⟩ ⟨A,ac⟩;simp only at A ac ⊢;conv=>whnf
 apply aC<;>intro o;all_goals conv=>whnf
 ·refine au (kR _ _) ?_;conv=>whnf
  refine cZ [.bool false,.int .i64 ((i:Int)+1)] rfl (λb I d J D y=>?_);conv=>whnf
  refine wF kO xJ (a:=lV ((i:Int)+1)) (Bi:=[b]) ac D ⟨_,rfl,jV (vs:=[dO ⟨false,(i:Int)+1⟩]) (t:=31) (by simp[dO]) rfl (by rw[y];rfl)⟩ (λa=>by simp only[X_,List.count_nil];split<;>omega) (by simpa using d) rfl rfl rfl rfl (by rw[jW];simp;omega) (by rw[jW];omega) ?_;intro E m w j e K;rw[jW,<-wL]at e;rw[jW];conv=>whnf
  refine av ?_;conv=>whnf
  exact cL (i+1,w,E,m,j) ⟨O,e⟩ (by simp only;omega) rfl
 have z:i=7:=by omega
 subst z;exact⟨ac.le,_,_,B,rfl,ac.own,by have:=ac.nd;simpa using this,λb d=>ac.fr b (by simp[d])⟩
theorem rS {K:Value->Heap->Prop} {E:List PanicEntry->Heap->Prop} (h:Heap) (f:∀ a p c B,h.le a->ep kN 2 a (.slice p 7 c) (fM 7) B->Nd B->(∀ b∈B,h b=none)->K (.slice p 7 c) a):gD prog 127 [] h K E:=cP (yR h) (λv a g=>by
 obtain⟨d,p,c,B,rfl,own,nd,e⟩:=g;exact⟨d,f a p c B d own nd e⟩)
theorem Nd.two {A B:List Nat} (d:Nd A) (e:Nd B) (f:∀ b∈B,b ∉ A):Nd (A++B):=by
 intro a;have g:=d a;have h:=e a;simp only[Y_];by_cases c:a∈B
 ·have:=List.count_eq_zero.2 (f a c);omega
 have:=List.count_eq_zero.2 c;omega
theorem eW {h a:Heap} (e:h.le a) {b:Nat} (c:a b=none):h b=none:=by
 cases d:h b with
 | none=>rfl
 | some o=>rw[e b o d]at c;cases c
theorem iD {a d:Heap} {G:List Nat} (e:∀ b∈G,∃ o,a b=some o) (f:a.le d) {b:Nat} (c:d b=none):b ∉ G:=λg=>by
 obtain⟨o,h⟩:=e b g;rw[f b o h]at c;cases c
theorem ep.xJ {h:Heap} {v:Value} {l:List Ob} {B:List Nat} (a:ep kN 2 h v l B):∀ b∈B,∃ o,h b=some o:=a.in Go.Proofs.xJ
theorem q8 {h:Heap} {v w:Value} {l k:List Vl} {A B:List Nat} (a:dx h v l A) (c:dx h w k B):∀ b∈A++B,∃ o,h b=some o:=λb d=>(u_.1 d).elim (a.in b) (c.in b)
theorem p7 (u:aI) {h x o i:Heap} {z s v:Option Addr} {w p j q m g e:Nat} {B1 c d:List Nat} {t5 t7:TypeId} (M:(bz u 0).locals<=3) (J:ep kN 2 x (.slice z 7 w) (fM 7) B1) (G:x.le i) (K:dx o (.slice s p j) (gK u 0 []).locals c) (L:dx o (.slice v q m) [] d) (y:o.le i)
  (D:i e=some (.cells #[.int .i64 0,.int .i64 0,.slice s p j,.slice v q m] t7 (0,0))) (C:i g=some (.cells #[] t5 (0,0))) (H:Nd B1) (I:Nd (c++d)) (d1:∀ b∈c++d,b ∉ B1) (d2:e ∉ B1) (d3:e ∉ c++d) (d4:g ∉ B1) (d5:g ∉ c++d) (d6:g≠e)
  (f1:∀ b∈B1,h b=none) (f23:∀ b∈c++d,h b=none) (f7:h e=none) (f5:h g=none) (F:h.le i) :
  h.le i/\∃ mc B,(Value.agg #[.slice z 7 w,.slice (some ⟨e,0,none⟩) 1 1,.slice (some ⟨g,0,none⟩) 0 0,.int .i64 0,.int .i64 0,.bool false,.int .i64 0])=.agg ⟨mc⟩/\gZ i mc (lW u) B/\Nd B/\∀ b∈B,h b=none:=by
 have E:ep nU 4 i (.slice (some ⟨e,0,none⟩) 1 1) (lW u).aq ([e]++(c++d)) :=
  ⟨[[.int .i64 0,.int .i64 0,.slice s p j,.slice v q m]],[e],c++d,jV (t:=t7) Z rfl (by rw[D];rfl),Rows.one ⟨_,_,c,d,rfl,by
   have:=K.aK (cS.of_le y _);simp only[gK,List.length_nil,Nat.sub_zero,List.nil_append]at this;exact this,L.aK (cS.of_le y _),rfl⟩,rfl⟩
 refine⟨F,_,B1++([e]++(c++d))++[g],rfl,⟨_,_,_,B1,[e]++(c++d),[g],rfl,J.aK kO (cS.of_le G _),E,dL C,rfl⟩,?_,λb a=>?_⟩
 ·refine Nd.two (Nd.two H (Nd.two (λA=>by simp only[X_,List.count_nil];split<;>omega) I (λb a f=>?_)) (λb a=>?_)) (λA=>by simp only[X_,List.count_nil];split<;>omega) (λb a f=>?_)
  ·rw[V_.1 f]at a;exact d3 a
  ·rcases u_.1 a with a|a
   ·rw[V_.1 a];exact d2
   exact d1 b a
  rw[V_.1 a]at f;simp only[u_,V_]at f d5;rcases f with f|f|f
  ·exact d4 f
  ·exact d6 f
  exact d5 f
 simp only[u_,V_]at a f23;rcases a with (a|rfl|a)|rfl
 ·exact f1 b a
 ·exact f7
 ·exact f23 b a
 exact f5
theorem tW {c e:Heap} {a b:Nat} {o:Obj} (g:c a=some o) (h:c.le e) (d:e b=none):a≠b:=λf=>by
 subst f;rw[h a o g]at d;cases d
theorem Av (S:List Value) (u:aI) (h:Heap) (R:dn h S u) (E:bS u) :
  bq prog 53 [.agg ⟨S⟩] h λv M=>h.le M/\∃ mc B,v=.agg ⟨mc⟩/\gZ M mc (lW u) B/\Nd B/\∀ b∈B,h b=none:=by
 have z:=R;obtain⟨ab,cc,ad,aa,rfl,hcs,lR,jq,hl2⟩:=R.form;have Q:=vj _ u h z;rw[eg E]at Q;have x:0<=(0:Int)/\(0:Int) < u.methods.length:=by have:=E.2.1.1;omega
 have y:=(E.bz x).1.2.2.2.2.1;have F:pO h (.slice none 0 0) []:=⟨Z,Z,none,0,rfl,Z,.inl rfl⟩
 refine bE ax func53 WH U rfl ?_;conv=>whnf
 refine au Q ?_;conv=>whnf
 repeat' ((first|exact p7 u y g (y_ a (y_ e d)) j m (y_ e d) (d _ _ s) o w q (λb f=>iD g.xJ (z_ _) (f23 b f)) (iD g.xJ a i) (iD (q8 j m) (z_ _) i) (iD g.xJ (y_ a e) p) (iD (q8 j m) e p) (tW s (z_ _) p).symm f1 (λb f=>eW c (f23 b f)) (eW (y_ c a) i) (eW (y_ c (y_ a e)) p) (y_ c (y_ a (y_ e d)))|exact p7 u y g (y_ a (y_ d e)) j m (y_ d e) s (e _ _ o) w q (λb f=>iD g.xJ (z_ _) (f23 b f)) (iD g.xJ (y_ a d) i) (iD (q8 j m) d i) (iD g.xJ a p) (iD (q8 j m) (z_ _) p) (tW o (z_ _) i) f1 (λb f=>eW c (f23 b f)) (eW (y_ c (y_ a d)) i) (eW (y_ c a) p) (y_ c (y_ a (y_ d e)))|exact p7 u y g (y_ d (y_ a e)) j m e s (e _ _ (a _ _ o)) w q (λb f=>iD g.xJ d (f23 b f)) (iD g.xJ (y_ d a) i) (iD (q8 j m) (z_ _) i) (iD g.xJ (z_ _) p) (λt=>tW o (z_ _) (f23 _ t) rfl) (tW o a i) f1 (λb f=>eW (y_ c d) (f23 b f)) (eW (y_ c (y_ d a)) i) (eW c p) (y_ c (y_ d (y_ a e)))|exact p7 u y g (y_ a e) j m e s (e _ _ (a _ _ (c _ _ o))) w q (λb f=>iD g.xJ (z_ _) (f23 b f)) (iD g.xJ a i) (iD (q8 j m) (z_ _) i) (λt=>tW o (z_ _) (f1 _ t) rfl) (λt=>tW o c (f23 _ t) rfl) (tW o (y_ c a) i) (λb f=>eW d (f1 b f)) (λb f=>eW (y_ d c) (f23 b f)) (eW (y_ d (y_ c a)) i) p (y_ d (y_ c (y_ a e)))|exact trivial|apply T_|refine rS h (λD W V T c g w f1=>?_)|refine rS P (λD W V T c g w f1=>?_)|refine jG _ u 0 [] _ D (z.le c) x (F.le c) Z O (λN I G A J H C K L a j m q f23=>?_)|refine jG _ u 0 [] _ P (z.le (y_ c d)) x (F.le (y_ c d)) Z O (λN I G A J H C K L a j m q f23=>?_)|refine jG _ u 0 [] _ D (z.le (y_ d c)) x (F.le (y_ d c)) Z O (λN I G A J H C K L a j m q f23=>?_)|refine cZ [] rfl (λX P p e5 d o=>?_)|refine cZ [.int .i64 0,.int .i64 0,.slice I G A,.slice J H C] rfl (λY h7 i e7 e s=>?_))<;>conv=>whnf)
end Go.Proofs
