/- Part 5 of the lemmas on which the law rests: what functions of the program and of the reference do; no conditions but those that each lemma states. -/
import Derived.Test.YthkgbjpkklkppaaGreatMa4
set_option linter.unusedSimpArgs false
set_option linter.unusedVariables false
namespace Go.Proofs
open Go.Vc Go.Proofs.Tryz
set_option maxRecDepth 100000
set_option maxHeartbeats 4000000
theorem lC (n:Int) (h:Heap):Pure prog 132 [.int .i64 n] h (KF ⟨false,n⟩):=by
 refine fD aB func132 R3 U rfl ?_;conv=>whnf
 exact⟨rfl,rfl⟩
theorem jU (n:Int) (h:Heap):Pure prog 109 [.int .i64 n] h (KF ⟨true,n⟩):=by
 refine fD aB func109 RH U rfl ?_;conv=>whnf
 exact⟨rfl,rfl⟩
theorem x6 (t:Int) (h:Heap):Pure prog 185 [.int .i64 t] h (KF (nothing t)):=by
 refine fD aB func185 SM U rfl ?_;conv=>whnf
 exact⟨rfl,rfl⟩
theorem BK {h0 h:Heap} {a:Nat} {H:List Value} {u:aS} {x:Sx} {B:List Nat} (e:XS h0 h a H u x B) (m:jn u x) (o:Ob) {v:Value} {f:List Nat} (q:bR h v o.bp f) (N:∀ b∈f,b ∉ a::B/\h0 b=none) :
  bI prog 186 [.pointer (some ⟨a,0,none⟩),.agg #[.int .i64 o.cls,v]] h λ_ h'=>∃ B',XS h0 h' a H u (gQ x o) B'/\Ev h h' ((a::B)++f) (a::B')/\rd h' a 3=rd h a 3:=by
 obtain⟨t,s,⟨p2,c2,r2⟩,_,_,X,J,aa,L,rfl,r0,r1,WX,hcs,kS⟩:=e.jl;have hl:=m.len.2;have C:Ev h h ((a::B)++f) (a::B):=⟨λ_ _ _=>rfl,λb c=>.inl (List.mem_append.2 (.inl c))⟩
 have S:=q.form;obtain⟨pv,cv,rfl,_⟩:=S;by_cases g:x.bad
 ·have V:gQ x o=x:=if_pos g;rw[V];refine bT aB func186 LJ Kc rfl ?_;conv=>whnf
  refine ld t ?_;conv=>whnf
  apply dM<;>intro D;all_goals conv=>whnf
  ·exact⟨B,e,C,rfl⟩
  have j:0 < x.ft:=by
   rcases g with c|c
   ·rw[D]at c;cases c
   exact c
  refine ld s ?_;conv=>whnf
  refine eR j ?_;conv=>whnf
  exact⟨B,e,C,rfl⟩
 have F:x.st=false:=by
  cases d:x.st with
  | false=>rfl
  | true=>exact absurd (.inl d) g
 have j:x.ft=0:=by
  have:=m.ft;have:¬0 < x.ft:=λW=>g (.inr W);omega
 have T:gQ x o=cY {x with objs:=x.objs++[o]} ⟨true,x.objs.length+1⟩:=if_neg g;rw[T];have hX0:=e;have IU:=F;have aae:=j;rw[F]at t;rw[j]at s;obtain⟨ab,Y,K,w,vs,c,grow⟩:=e.ma.OJ (show x.x5.objs.length<=1000 by show x.objs.length<=1000;omega);have LQ:rd h a 2=some (.slice Y x.objs.length K):=bA c (i:=0) rfl rfl;have IJ:rd h a 3=some w:=bA c (i:=1) rfl rfl;refine bT aB func186 LJ Kc rfl ?_;conv=>whnf
 repeat' ((first|refine ld t ?_|refine ld s ?_|refine ay ?_|refine av ?_|refine ptr ?_)<;>conv=>whnf)
 repeat' ((first|exact trivial|refine ld LQ ?_|apply And.intro)<;>conv=>whnf)
 all_goals
  refine grow o f _ _ ⟨_,rfl,q⟩ q.nd N rfl rfl rfl rfl Z ?_;rintro G y h2 M e2 e3 ⟨B',P,A⟩;have R:=M.trans c;conv=>whnf
  refine jd R (i:=0) (aE (.slice G (x.x5.objs.length+1) y) w vs x.x5) rfl (by simp[aE]) (by rfl) (λp z E=>?_);have Q:XS h0 p a [.slice X u.aq.length J,.slice aa u.methods.length L] u {x with objs:=x.objs++[o]} B':=⟨by rw[z];exact P,e.un⟩
  have q2:rd p a 2=some (.slice G (x.objs.length+1) y):=bA E (i:=0) rfl rfl;have q3:rd p a 3=some w:=bA E (i:=1) rfl rfl;rw[<-z]at A;conv=>whnf
  refine ld q2 ?_;conv=>whnf
  refine ax (jU _ _) ?_;conv=>whnf
  refine aG (jT Q (by have:=m.nf;show x.fs.length<=1000;omega) (by have:=m.gh.2.2.2.1;show x.f.stack.length<=1000;omega) ⟨true,((x.objs.length+1:Nat):Int)⟩) (λv h4 d=>?_);conv=>whnf
  refine d.elim λI d=>?_;exact⟨I,d.1,A.trans d.2.1,by rw[d.2.2,q3,IJ]⟩
theorem IV {h0 h:Heap} {c:Nat} {Q:List Value} {u:aS} {x:Sx} {B:List Nat} (g:XS h0 h c Q u x B) (hs:jn u x) (ok:cn u.aq) (k:Int) (v:0<=k/\k < u.aq.length) :
  bI prog 145 [.pointer (some ⟨c,0,none⟩),.int .i64 k] h λ_ h'=>XR h0 h c Q u B (BJ u x k) h':=by
 have mW:=g.ma.in;have hle:=g.ma.le;obtain⟨r9,CN,_,_,_,ab,W,ag,af,rfl,r0,r1,WX,hcs,kS⟩:=g.jl;have OZ:=ec ok v.2;refine bT aB func145 Sb U rfl ?_;conv=>whnf
 refine ld r0 ?_;conv=>whnf
 refine aG (iy (k.toNat+1) ab u.aq.length W u.aq k h hcs ok v.1 v.2 O) (λad d a=>?_);refine a.2.elim λT K=>?_;have A:=K.1;have nt:=K.2;have z:=a.1;have e:=A.form;refine e.elim λP e=>e.elim λE e=>?_;have hv:=e.1;subst hv;have I:BJ u x k=gQ x ⟨k,(cP u.aq k).map nothing⟩:=rfl;rw[I];generalize cP u.aq k=types at A OZ I ⊢;have LN:=dP bP types;conv=>whnf
 refine eu [0,4,5,6] [5] (λs:Nat × Heap × Option Addr × Nat × List Nat=>s.1<=types.length/\d.le s.2.1/\bR s.2.1 (.slice s.2.2.1 s.1 s.2.2.2.1) ((types.take s.1).map nothing) s.2.2.2.2/\∀ b∈s.2.2.2.2,d b=none) (λs=>types.length-s.1)
  (λs=>([.v (.pointer (some ⟨c,0,none⟩)),.v (.slice P (types.map bP).length E),.l 5 0,.v (.int .i64 s.1)],[some [.int .i64 k,.slice s.2.2.1 s.1 s.2.2.2.1]],s.2.1))
  (0,d,none,0,[]) ⟨O,Heap.le_refl d,⟨Z,.inl ⟨rfl,Z,rfl⟩⟩,Z⟩ rfl ?_
 rintro⟨i,G,pp,ae,D⟩ ⟨hi,f,m,j⟩;simp only at hi f m j ⊢;conv=>whnf
 apply aD<;>intro aa;all_goals conv=>whnf
 ·have L:i < types.length:=by omega
  have X:=(show dI G (.slice P (types.map bP).length E) types T from A.aJ (cD.of_le f _)).nth (i:=i) (by simpa using L);obtain⟨b,hq,F,_⟩:=X;rw[List.getElem_map]at F;have Y:rd G b (0+i*1)=some (.int .i64 types[i]):=by simpa using aM F (i:=0) rfl
  refine ay ?_;conv=>whnf
  refine aP hq ?_;conv=>whnf
  refine ld Y ?_;conv=>whnf
  repeat' ((first|exact trivial|refine aO (x6 _ _) ?_|apply And.intro)<;>conv=>whnf)
  all_goals
   have Cy:((types.take i).map nothing).length=i:=by simp;omega
   refine cX (h0:=d) (ys:=[bM (nothing types[i])]) m j f rfl rfl (by simp[bM]) rfl rfl (by simp;omega) (by simp;omega) ?_;intro v' q C g1 g2 g3 g4 g5;have p:bR q v' ((types.take (i+1)).map nothing) C:=by
    unfold bR;rw[<-List.take_append_getElem L,List.map_append,List.map_append];exact g2
   obtain⟨p',V,rfl,_⟩:=p.form;have xQ:(((types.take (i+1)).map nothing).map bM).length=i+1:=by simp;omega
   rw[xQ]at p ⊢;conv=>whnf
   refine av ?_;conv=>whnf
   exact cT (i+1,q,p',V,C) ⟨O,g1,p,g3⟩ (by simp only;omega) rfl
 have vU:i=types.length:=by omega
 subst vU;rw[List.take_length]at m;have M:=g.mono (Heap.le_trans z f);have J:∀ b,d b=none->h b=none:=λb H=>by
  cases a:h b with
  | none=>rfl
  | some o=>rw[z b o a]at H;cases H
 have pF:∀ b∈D,b ∉ c::B/\h0 b=none:=by
  intro b t;have w:=J b (j b t);refine⟨λy=>?_,?_⟩
  ·obtain⟨o,N⟩:=mW b y;rw[w]at N;cases N
  cases a:h0 b with
  | none=>rfl
  | some o=>rw[hle b o a]at w;cases w
 refine aG (BK M.1 hs ⟨k,types.map nothing⟩ m pF) (λad q a=>?_);conv=>whnf
 refine a.elim λR a=>?_;refine⟨R,a.1,?_,a.2.2.trans M.2.2⟩;have:=(Ev.of_le (Heap.le_trans z f) ((c::B)++D) (S:=c::B) (λb t=>(List.mem_append.1 t).imp id (λy=>J b (j b y)))).trans a.2.1;exact this
theorem TW {h0 h:Heap} {c:Nat} {t:List Value} {u:aS} {x:Sx} {B:List Nat} (y:XS h0 h c t u x B) (p:jn u x) (b:Int) :
  bI prog 144 [.pointer (some ⟨c,0,none⟩),.int .i64 b] h λ_ h'=>XR h0 h c t u B (Gf x b) h':=by
 have q:=p.word.1;have s:=q.word.1;refine bT aB func144 Sa U rfl ?_;conv=>whnf
 refine aG (kH y p) (λv C a=>?_);have i:=a.1;subst i;refine a.2.elim λz d=>?_;conv=>whnf
 refine aG (kH d.1 q) (λv D a=>?_);have i:=a.1;subst i;refine a.2.elim λA e=>?_;have m:=d.2.1.trans e.2.1;have j:=e.2.2.trans d.2.2;have o:=e.1;conv=>whnf
 refine ax (Fe _ _ _ _) ?_;unfold Ns;conv=>whnf
 apply cq<;>intro g;all_goals conv=>whnf
 ·refine aG (iH o 1) (λv w a=>?_);conv=>whnf
  have f:Gf x b=cz (aF (aF x).2).2 1:=if_neg (by rw[g];simp);rw[f];exact a.trans m j
 refine ax (lC _ _) ?_;conv=>whnf
 refine aG (jT o (by have:=s.nf;omega) (by have:=s.gh.2.2.2.1;omega) ⟨false,(fJ b (aF (aF x).2).1 (aF x).1).1⟩) (λv w a=>?_);conv=>whnf
 have f:Gf x b=cY (aF (aF x).2).2 ⟨false,(fJ b (aF (aF x).2).1 (aF x).1).1⟩:=if_pos g;rw[f];exact a.trans m j
theorem IW {h0 h:Heap} {c:Nat} {G:List Value} {u:aS} {x:Sx} {B:List Nat} (hX:XS h0 h c G u x B) (hs:jn u x) (k:Int) (hk:k=0\/k=1) :
  bI prog 146 [.pointer (some ⟨c,0,none⟩),.int .i64 k] h λ_ h'=>XR h0 h c G u B (kG x k) h':=by
 have mW:=hX.ma.in;have hle:=hX.ma.le;have DZ:=hs.word.1;have WY:=hs.word.2;have Kl:kG x k=gQ (if 0<=(aF x).1/\(aF x).1<=6 then (aF x).2 else cz (aF x).2 4) (jS k (aF x).1):=rfl;rw[Kl];refine bT aB func146 Sc U rfl ?_;conv=>whnf
 refine aG (kH hX hs) (λv z a=>?_);have P:=a.1;subst P;refine a.2.elim λT TX=>?_;have K:=TX.1;have NH:=TX.2.1;have e1:=TX.2.2;conv=>whnf
 refine ax (de _ _ _ _) ?_;conv=>whnf
 apply aU<;>intro J;all_goals conv=>whnf
 ·refine aG (iH K 4) (λv A a=>?_);refine a.elim λV HY=>?_;have S:=HY.1;have zy:=NH.trans HY.2.1;have e2:=HY.2.2.trans e1;have IX:=DZ.OY (k:=4) O;rw[if_neg J];conv=>whnf
  have hm:(jS k (aF x).1).bp.length=(min (aF x).1 6).toNat:=by simp[jS]
  have Gh:(jS k (aF x).1).cls = -1-k:=rfl;generalize hwn:(aF x).1=n at hm Gh WY J ⊢;obtain⟨m,Mc⟩:∃ m,m=(min n 6).toNat:=⟨_,rfl⟩
  have Gi:(jS k n).bp=List.replicate m ⟨decide (k=1),0⟩:=by rw[Mc];rfl
  refine av ?_;conv=>whnf
  refine eu [0,1,4,5,6] [5] (λs:Nat × Heap × Option Addr × Nat × List Nat=>s.1<=m/\A.le s.2.1/\bR s.2.1 (.slice s.2.2.1 s.1 s.2.2.2.1) (List.replicate s.1 ⟨decide (k=1),0⟩) s.2.2.2.2/\∀ b∈s.2.2.2.2,A b=none) (λs=>m-s.1)
   (λs=>([.v (.pointer (some ⟨c,0,none⟩)),.v (.int .i64 k),.v (.int .i64 n),.l 5 0,.v (.int .i64 s.1)],[some [.int .i64 (-1-k),.slice s.2.2.1 s.1 s.2.2.2.1]],s.2.1))
   (0,A,none,0,[]) ⟨O,Heap.le_refl A,⟨Z,.inl ⟨rfl,Z,rfl⟩⟩,Z⟩ rfl ?_
  rintro⟨i,q,R,I,p⟩ ⟨hi,o,F,t⟩;simp only at hi o F t ⊢;conv=>whnf
  have step:i < m->App 16 2 [.bool false,.int .i64 0] 31 q R i I 1 [.bool (decide (k=1)),.int .i64 0] (λw g=>∃ j f,w=.slice j (i+1) f/\∃ d,A.le g/\bR g (.slice j (i+1) f) (List.replicate (i+1) ⟨decide (k=1),0⟩) d/\∀ b∈d,A b=none):=by
   intro L;have hli:((List.replicate i (⟨decide (k=1),0⟩:Vl)).map bM).length=i:=by simp
   refine cX (h0:=A) (ys:=[bM ⟨decide (k=1),0⟩]) F t o rfl rfl (by simp[bM]) rfl rfl (by simp;omega) (by simp;omega) ?_;intro w g d X Y g3 g4 g5;have y:bR g w (List.replicate (i+1) ⟨decide (k=1),0⟩) d:=by
    unfold bR;rw[List.replicate_succ',List.map_append];exact Y
   obtain⟨j,f,rfl,_⟩:=y.form;have xQ:((List.replicate (i+1) (⟨decide (k=1),0⟩:Vl)).map bM).length=i+1:=by simp
   rw[xQ]at y ⊢;exact⟨j,f,rfl,d,X,y,g3⟩
  by_cases L:i < m
  ·refine bZ ?_;conv=>whnf
   refine bZ ?_;conv=>whnf
   refine(step L).mono (λw g a=>?_);refine a.elim λj a=>a.elim λf a=>?_;have P:=a.1;subst P;refine a.2.elim λd a=>?_;conv=>whnf
   refine av ?_;conv=>whnf
   exact cT (i+1,g,j,f,d) ⟨O,a⟩ (by simp only;omega) rfl
  have vU:i=m:=by omega
  subst vU;have fin:∀ {v:Value} {e:Heap},(∃ H,XS h0 e c G u (gQ (cz (aF x).2 4) (jS k n)) H/\Ev q e ((c::V)++p) (c::H)/\rd e c 3=rd q c 3)->XR h0 h c G u B (gQ (cz (aF x).2 4) (jS k n)) e:=by
   intro v e a;obtain⟨W,k1,k2,k3⟩:=a;obtain⟨_,_,k4⟩:=XM.mono S o;refine⟨W,k1,zy.trans ((Ev.of_le o ((c::V)++p) (λb C=>(List.mem_append.1 C).imp id (t b))).trans k2),k3.trans (k4.trans e2)⟩
  have pF:∀ b∈p,b ∉ c::V/\h0 b=none:=by
   intro b C;have E:=t b C;refine⟨λhx=>?_,?_⟩
   ·obtain⟨Q,N⟩:=S.ma.in b hx;rw[E]at N;cases N
   cases a:h0 b with
   | none=>rfl
   | some Q=>rw[S.ma.le b Q a]at E;cases E
  have TY:bR q (.slice R i I) (jS k n).bp p:=by rw[Gi];exact F
  have D:=BK (XM.mono S o).1 IX (jS k n) TY pF;rw[show(jS k n).cls = -1-k from rfl]at D;by_cases M:(i:Int) < n
  ·refine eR M ?_;conv=>whnf
   refine bD ?_;conv=>whnf
   refine aG D (λv e a=>?_);conv=>whnf
   exact fin (v:=v) a
  refine cx M ?_;conv=>whnf
  refine aG D (λv e a=>?_);conv=>whnf
  exact fin (v:=v) a
 rw[if_pos J];have hm:(jS k (aF x).1).bp.length=(min (aF x).1 6).toNat:=by simp[jS]
 have Gh:(jS k (aF x).1).cls = -1-k:=rfl;generalize hwn:(aF x).1=n at hm Gh WY J ⊢;obtain⟨m,Mc⟩:∃ m,m=(min n 6).toNat:=⟨_,rfl⟩
 have Gi:(jS k n).bp=List.replicate m ⟨decide (k=1),0⟩:=by rw[Mc];rfl
 refine av ?_;conv=>whnf
 refine eu [0,1,4,5,6] [5] (λs:Nat × Heap × Option Addr × Nat × List Nat=>s.1<=m/\z.le s.2.1/\bR s.2.1 (.slice s.2.2.1 s.1 s.2.2.2.1) (List.replicate s.1 ⟨decide (k=1),0⟩) s.2.2.2.2/\∀ b∈s.2.2.2.2,z b=none) (λs=>m-s.1)
  (λs=>([.v (.pointer (some ⟨c,0,none⟩)),.v (.int .i64 k),.v (.int .i64 n),.l 5 0,.v (.int .i64 s.1)],[some [.int .i64 (-1-k),.slice s.2.2.1 s.1 s.2.2.2.1]],s.2.1))
  (0,z,none,0,[]) ⟨O,Heap.le_refl z,⟨Z,.inl ⟨rfl,Z,rfl⟩⟩,Z⟩ rfl ?_
 rintro⟨i,q,R,I,p⟩ ⟨hi,o,F,t⟩;simp only at hi o F t ⊢;conv=>whnf
 have step:i < m->App 16 2 [.bool false,.int .i64 0] 31 q R i I 1 [.bool (decide (k=1)),.int .i64 0] (λw g=>∃ j f,w=.slice j (i+1) f/\∃ d,z.le g/\bR g (.slice j (i+1) f) (List.replicate (i+1) ⟨decide (k=1),0⟩) d/\∀ b∈d,z b=none):=by
  intro L;have hli:((List.replicate i (⟨decide (k=1),0⟩:Vl)).map bM).length=i:=by simp
  refine cX (h0:=z) (ys:=[bM ⟨decide (k=1),0⟩]) F t o rfl rfl (by simp[bM]) rfl rfl (by simp;omega) (by simp;omega) ?_;intro w g d X Y g3 g4 g5;have y:bR g w (List.replicate (i+1) ⟨decide (k=1),0⟩) d:=by
   unfold bR;rw[List.replicate_succ',List.map_append];exact Y
  obtain⟨j,f,rfl,_⟩:=y.form;have xQ:((List.replicate (i+1) (⟨decide (k=1),0⟩:Vl)).map bM).length=i+1:=by simp
  rw[xQ]at y ⊢;exact⟨j,f,rfl,d,X,y,g3⟩
 by_cases L:i < m
 ·refine bZ ?_;conv=>whnf
  refine bZ ?_;conv=>whnf
  refine(step L).mono (λw g a=>?_);refine a.elim λj a=>a.elim λf a=>?_;have P:=a.1;subst P;refine a.2.elim λd a=>?_;conv=>whnf
  refine av ?_;conv=>whnf
  exact cT (i+1,g,j,f,d) ⟨O,a⟩ (by simp only;omega) rfl
 have vU:i=m:=by omega
 subst vU;have fin:∀ {v:Value} {e:Heap},(∃ H,XS h0 e c G u (gQ (aF x).2 (jS k n)) H/\Ev q e ((c::T)++p) (c::H)/\rd e c 3=rd q c 3)->XR h0 h c G u B (gQ (aF x).2 (jS k n)) e:=by
  intro v e a;obtain⟨W,k1,k2,k3⟩:=a;obtain⟨_,_,k4⟩:=XM.mono K o;refine⟨W,k1,NH.trans ((Ev.of_le o ((c::T)++p) (λb C=>(List.mem_append.1 C).imp id (t b))).trans k2),k3.trans (k4.trans e1)⟩
 have pF:∀ b∈p,b ∉ c::T/\h0 b=none:=by
  intro b C;have E:=t b C;refine⟨λhx=>?_,?_⟩
  ·obtain⟨Q,N⟩:=K.ma.in b hx;rw[E]at N;cases N
  cases a:h0 b with
  | none=>rfl
  | some Q=>rw[K.ma.le b Q a]at E;cases E
 have TY:bR q (.slice R i I) (jS k n).bp p:=by rw[Gi];exact F
 have D:=BK (XM.mono K o).1 DZ (jS k n) TY pF;rw[show(jS k n).cls = -1-k from rfl]at D;by_cases M:(i:Int) < n
 ·refine eR M ?_;conv=>whnf
  refine bD ?_;conv=>whnf
  refine aG D (λv e a=>?_);conv=>whnf
  exact fin (v:=v) a
 refine cx M ?_;conv=>whnf
 refine aG D (λv e a=>?_);conv=>whnf
 exact fin (v:=v) a
theorem jn.x8 {u:aS} {x:Sx} (h:jn u x):x.fs.length<=1000:=by have:=h.nf;omega
theorem jn.tJ {u:aS} {x:Sx} (h:jn u x):x.f.stack.length<=1000:=by have:=h.gh.2.2.2.1;omega
theorem Mk {h0 h:Heap} {c:Nat} {A:List Value} {u:aS} {x:Sx} {B:List Nat} (L:XS h0 h c A u x B) (v:jn u x) :
  bI prog 147 [.pointer (some ⟨c,0,none⟩)] h λ_ h'=>XR h0 h c A u B (oV x) h':=by
 have f:=v.ref;have E:oV x=if 0 < (aI x).1/\(aI x).2.st=false/\0<=(aK (aI x).2.objs (aI x).1).cls then { (aI x).2 with st:=true}else if (aI x).1=0 then cz (aI x).2 2 else cY (aI x).2 ⟨false,(aK (aI x).2.objs (aI x).1).bp.length⟩:=rfl
 have P:(aI x).2.objs.length=x.objs.length:=by rw[(hY x).2.1]
 have hlen:=v.len.2;rw[E];clear E;have t:=sZ L v;generalize hn:(aI x).1=n at f t ⊢;generalize hy:(aI x).2=y at f t P ⊢;refine bT aB func147 Sd U rfl ?_;conv=>whnf
 refine aG t (λC K a=>?_);have w:=a.1;subst w;refine a.2.elim λH q=>?_;have d:=q.1;have j:=q.2.1;have i:=q.2.2;have T:=d.jl.1;conv=>whnf
 by_cases e:n=0
 ·rw[if_neg O,if_pos e];refine bD ?_;conv=>whnf
  repeat' ((first|refine bZ ?_|refine bD ?_)<;>conv=>whnf)
  refine aG (iH d 2) (λC D a=>?_);conv=>whnf
  exact a.trans j i
 have s:0 < n:=by omega
 refine(d.gZ s O).elim λW b=>b.elim λX b=>b.elim λvv b=>b.elim λV b=>?_;have z:=b.1;have S:=b.2.1;have F:=b.2.2.1;have R:=b.2.2.2.1;refine R.form.elim λpv p=>p.elim λY p=>?_;have w:=p.1;subst w;have N:=dP bM (aK y.objs n).bp;refine eR s ?_;conv=>whnf
 refine ld T ?_;conv=>whnf
 have push:∀ {G:Sx},G=cY y ⟨false,(aK y.objs n).bp.length⟩->bI prog 139 [.pointer (some ⟨c,0,none⟩),KF ⟨false,((List.map bM (aK y.objs n).bp).length:Int)⟩] K λ_ h'=>XR h0 h c A u B G h':=λQ=>by
  rw[Q,N];exact(jT d f.1.x8 f.1.tJ _).mono (λ_ _ a=>a.trans j i)
 apply cq<;>intro m;all_goals conv=>whnf
 ·repeat' ((first|refine ld z ?_|refine ld S ?_|refine ay ?_|refine av ?_|refine ptr ?_)<;>conv=>whnf)
  apply aD<;>intro o;all_goals conv=>whnf
  ·rw[if_pos ⟨s,m,o⟩];refine d.stuck (λh2 M J I=>?_);conv=>whnf
   exact⟨H,M,j.trans J,I.trans i⟩
  rw[if_neg (λg=>o g.2.2),if_neg e];refine cx e ?_;conv=>whnf
  repeat' ((first|refine ld z ?_|refine ld F ?_|refine ay ?_|refine av ?_|refine ptr ?_)<;>conv=>whnf)
  refine ax (lC _ _) ?_;conv=>whnf
  refine aG (push rfl) (λC D a=>?_);conv=>whnf
  exact a
 rw[if_neg (λg=>by rw[m]at g;cases g.2.1),if_neg e];refine cx e ?_;conv=>whnf
 repeat' ((first|refine ld z ?_|refine ld F ?_|refine ay ?_|refine av ?_|refine ptr ?_)<;>conv=>whnf)
 refine ax (lC _ _) ?_;conv=>whnf
 refine aG (push rfl) (λC D a=>?_);conv=>whnf
 exact a
theorem D0 (h:Heap) (a n c:Nat) (k cls:Int) (e:rd h a (0+(k-1).toNat*2)=some (.int .i64 cls)) (g:0 < k/\k<=n) (i:n<=1000) (f : -2<=cls/\cls<=900) :
  Pure prog 187 [.slice (some ⟨a,0,none⟩) n c,.agg #[.bool true,.int .i64 k]] h (.int .i64 (typeOf cls)):=by
 refine fD aB func187 SN U rfl ?_;conv=>whnf
 refine bD ?_;conv=>whnf
 repeat' ((first|refine ld e ?_|refine ay ?_|refine av ?_|refine ptr ?_)<;>conv=>whnf)
 unfold typeOf;by_cases b:cls = -1
 ·subst b;repeat' ((first|refine bZ ?_|refine bD ?_|refine cU ?_|refine cy ?_|apply aD<;>intro _|apply aU<;>intro _|apply dM<;>intro _|apply cq<;>intro _|refine ay ?_|refine av ?_|refine ptr ?_)<;>conv=>whnf)
  exact⟨rfl,rfl⟩
 by_cases d:cls = -2
 ·subst d;repeat' ((first|refine bZ ?_|refine bD ?_|refine cU ?_|refine cy ?_|apply aD<;>intro _|apply aU<;>intro _|apply dM<;>intro _|apply cq<;>intro _|refine ay ?_|refine av ?_|refine ptr ?_)<;>conv=>whnf)
  exact⟨rfl,rfl⟩
 rw[if_neg b,if_neg d];repeat' ((first|refine bZ ?_|refine bD ?_|refine cU ?_|refine cy ?_|apply aD<;>intro _|apply aU<;>intro _|apply dM<;>intro _|apply cq<;>intro _|refine ay ?_|refine av ?_|refine ptr ?_|refine ld e ?_)<;>conv=>whnf)
 all_goals first|(exfalso;omega)|exact⟨rfl,rfl⟩
theorem Ml {h0 h:Heap} {j:Nat} {C:List Value} {u:aS} {x:Sx} {B:List Nat} (J:XS h0 h j C u x B) (t:jn u x) (ok:cn u.aq) (k:Int) (hk:0<=k/\k < u.aq.length) :
  bI prog 150 [.pointer (some ⟨j,0,none⟩),.int .i64 k] h λ_ h'=>XR h0 h j C u B (oW u x k) h':=by
 have e:=t.ref;have z:oW u x k=if (aI x).2.st=true then (aI x).2 else if 0 < (aI x).1/\gU u.aq (typeOf (aK (aI x).2.objs (aI x).1).cls) (8+k)=false then cz (aI x).2 5 else cY (aI x).2 ⟨true,(aI x).1⟩:=rfl
 have M:(aI x).2.objs.length=x.objs.length:=by rw[(hY x).2.1]
 have hlen:=t.len.2;have vL:=ok.2.1;rw[z];clear z;have s:=sZ J t;generalize hn:(aI x).1=n at e s ⊢;generalize hy:(aI x).2=y at e s M ⊢;refine bT aB func150 Se U rfl ?_;conv=>whnf
 refine aG s (λv w a=>?_);have Q:=a.1;subst Q;refine a.2.elim λD q=>?_;have d:=q.1;have i:=q.2.1;have g:=q.2.2;refine d.jl.2.2.2.2.2.elim λR c=>c.elim λF c=>c.elim λaa c=>c.elim λY c=>?_;have W:=d.jl.1;have V:=c.2.1;have K:=c.2.2.2.2.1;conv=>whnf
 refine ld W ?_;conv=>whnf
 apply dM<;>intro m;all_goals conv=>whnf
 ·rw[if_pos m];exact⟨D,d,i,g⟩
 rw[if_neg (by rw[m];simp)];by_cases WZ:n=0
 ·rw[if_neg O];refine bD ?_;conv=>whnf
  refine ax (jU _ _) ?_;conv=>whnf
  refine aG (jT d e.1.x8 e.1.tJ ⟨true,n⟩) (λv p a=>?_);conv=>whnf
  exact a.trans i g
 have f:0 < n:=by omega
 refine(d.gZ f O).elim λE b=>b.elim λG b=>b.elim λvv b=>b.elim λX b=>?_;have S:=b.1;have T:=b.2.1;have I:=e.1.vK _ (fU (objs:=y.objs) f O);have rG : -2<=(aK y.objs n).cls/\(aK y.objs n).cls < u.aq.length:=by
  rcases I.2 with ⟨H,_⟩|⟨H,p,_⟩
  ·have:=ok.1;omega
  omega
 have P:=D0 w E y.objs.length G n (aK y.objs n).cls T ⟨f,O⟩ O O;have N:typeOf (aK y.objs n).cls < 8+u.aq.length:=by unfold typeOf;repeat' split;all_goals omega
 have L:=rZ R u.aq.length F u.aq (typeOf (aK y.objs n).cls) (8+k) w K ok N O;refine eR f ?_;conv=>whnf
 repeat' ((first|refine ld V ?_|refine ld S ?_|refine aO (jU _ _) ?_|refine aO P ?_|refine aO L ?_|refine ay ?_|refine av ?_|refine ptr ?_)<;>conv=>whnf)
 apply cq<;>intro o;all_goals conv=>whnf
 ·rw[if_pos ⟨f,o⟩];refine aG (iH d 5) (λv p a=>?_);conv=>whnf
  exact a.trans i g
 rw[if_neg (λA=>by rw[o]at A;cases A.2)];refine ax (jU _ _) ?_;conv=>whnf
 refine aG (jT d e.1.x8 e.1.tJ ⟨true,n⟩) (λv p a=>?_);conv=>whnf
 exact a.trans i g
theorem iT {u:aS} {x:Sx} {n k:Int} (d:jn u x) (h:¬(bw u x n k).bad):eG u (aK x.objs n).cls k=false:=by
 unfold bw at h;split at h
 ·rename_i a;exact absurd a h
 rename_i a;have c:x.ft=0:=by
  have:=d.ft;have:¬0 < x.ft:=λe=>a (.inr e);omega
 split at h
 ·refine absurd ?_ h;unfold cz Sx.bad;rw[if_pos c];exact .inr (by show(0:Int) < 2;omega)
 split at h
 ·exact absurd (.inl rfl) h
 rename_i b;simpa using b
theorem XS.x9 {h0 h:Heap} {d:Nat} {p:List Value} {u:aS} {y:Sx} {B:List Nat} (t:XS h0 h d p u y B) {n:Int} (A:0 < n) (hle:n<=y.objs.length) {i:Nat} (g:i < (aK y.objs n).bp.length) :
  ∃ b c a e,rd h d 2=some (.slice (some ⟨b,0,none⟩) y.objs.length c)/\rd h b (0+(n-1).toNat*2+1)=some (.slice (some ⟨a,0,none⟩) (List.map bM (aK y.objs n).bp).length e)/\dQ h a (0+i*2) 2=some (bM ((aK y.objs n).bp.getD i cE)) /\
   ∀(v:Vl) (K:Heap->Prop),(∀ h',XR h0 h d p u B {y with objs:=fA y.objs n ((aK y.objs n).bp.set i v)} h'->K h')->St h a (0+i*2) [.bool v.ref,.int .i64 v.n] K:=by
 obtain⟨b,c,v,L,E,Q,F,j,H⟩:=t.gZ A hle;obtain⟨P,e,rfl,_⟩:=j.form;obtain⟨N,f,G,_,_,_⟩:=j.two g;obtain⟨a,pre,J,post,R,m,_,x,C,o,rfl,I⟩:=bW.put j g;rw[m]at f;simp only[Option.some.injEq,Addr.mk.injEq,and_true]at f;subst f;subst m;refine⟨b,c,a,e,E,F,by rw[ox g];exact G,λv K z=>?_⟩;have D:dU (pre++J++post) (0+i*2) [.bool v.ref,.int .i64 v.n]=pre++bM v++post:=jN O (by rw[o];rfl);refine vI x (pre++bM v++post) (by simp[o,bM,C]<;>omega) D (λh' q s=>?_);exact z h' (H h' _ (I _ v s) (λM w _=>by rw[q];simp only[Heap.set];rw[if_neg (by simpa using w)]))
theorem BL {h0 h:Heap} {w:Nat} {R:List Value} {u:aS} {x:Sx} {B:List Nat} (hX:XS h0 h w R u x B) (q:jn u x) (ok:cn u.aq) (k:Int) (hk:k=0\/k=1) :
  bI prog 148 [.pointer (some ⟨w,0,none⟩),.int .i64 k,.bool true] h λ_ h'=>XR h0 h w R u B (qL u x k true) h':=by
 have Gj:qL u x k true=if (bw u (aI (aF (aZ x).2).2).2 (aI (aF (aZ x).2).2).1 (-1-k)).bad then bw u (aI (aF (aZ x).2).2).2 (aI (aF (aZ x).2).2).1 (-1-k)else if ¬(0<=(aF (aZ x).2).1/\(aF (aZ x).2).1 < (aK (bw u (aI (aF (aZ x).2).2).2 (aI (aF (aZ x).2).2).1 (-1-k)).objs (aI (aF (aZ x).2).2).1).bp.length)then cz (bw u (aI (aF (aZ x).2).2).2 (aI (aF (aZ x).2).2).1 (-1-k)) 3 else DY (bw u (aI (aF (aZ x).2).2).2 (aI (aF (aZ x).2).2).1 (-1-k)) (aI (aF (aZ x).2).2).1 (aF (aZ x).2).1 (aZ x).1:=rfl
 rw[Gj];refine bT aB func148 LG J9 rfl ?_;conv=>whnf
 refine aG (uK hX q.x8 q.tJ) (λv h1 a=>?_);have b:=a.1;subst b;refine a.2.elim λB1 A=>?_;have IY:=A.1;have X:=A.2.1;have T:=A.2.2;have P:=q.pop.1;have TZ:=q.pop.2;have Mm:(aZ x).2.objs=x.objs:=(jw x).2.1;rw[<-Mm]at TZ;conv=>whnf
 refine aG (kH IY P) (λv J a=>?_);have b:=a.1;subst b;refine a.2.elim λB2 C=>?_;have AJ:=C.1;have Y:=X.trans C.2.1;have V:=C.2.2.trans T;have Q:=P.word;conv=>whnf
 refine aG (sZ AJ Q.1) (λv K a=>?_);have b:=a.1;subst b;refine a.2.elim λB3 D=>?_;have O0:=D.1;have vV:=Y.trans D.2.1;have W:=D.2.2.trans V;have j:=jn.ref Q.1;conv=>whnf
 refine av ?_;conv=>whnf
 refine aG (qN O0 j.1 ok _ (-1-k) (by rw[(hY _).2.1];exact j.2) O) (λv L a=>?_);refine a.2.1.elim λbn b=>b.elim λon b=>?_;subst b;refine a.1.elim λI E=>?_;have c:=E.1;have jV:=a.2.2;have p:=vV.trans E.2.1;have o:=E.2.2.trans W;by_cases f:(bw u (aI (aF (aZ x).2).2).2 (aI (aF (aZ x).2).2).1 (-1-k)).bad
 ·rw[if_pos f];have t:=c.jl.1;have s:=c.jl.2.1;conv=>whnf
  refine ld t ?_;conv=>whnf
  apply dM<;>intro i;all_goals conv=>whnf
  ·exact⟨I,c,p,o⟩
  refine ld s ?_;conv=>whnf
  refine eR (f.resolve_left (by rw[i];simp)) ?_;conv=>whnf
  exact⟨I,c,p,o⟩
 rw[if_neg f];have g:=jV f;have F:=g.1;have vJ:=g.2.1;have EP:=iT j.1 f;refine g.2.2.elim λbo g=>g.elim λco g=>?_;have M:=g.1;have G:=g.2;simp only[Value.pointer.injEq,Option.some.injEq,Addr.mk.injEq,and_true]at G;have yc:=G.1;have BM:=G.2;subst yc;subst BM;rw[vJ]at f c ⊢;have nu:(aI (aF (aZ x).2).2).2.st=false:=by
  cases a:(aI (aF (aZ x).2).2).2.st with
  | false=>rfl
  | true=>exact absurd (.inl a) f
 have D1:(aI (aF (aZ x).2).2).2.ft=0:=by
  have h1:=j.1.ft;have J:¬0 < (aI (aF (aZ x).2).2).2.ft:=λhx=>f (.inr hx);omega
 have t:=c.jl.1;have s:=c.jl.2.1;rw[nu]at t;rw[D1]at s;conv=>whnf
 repeat' ((first|refine ld t ?_|refine ld s ?_|refine ay ?_|refine av ?_|refine ptr ?_)<;>conv=>whnf)
 have hle:(aI (aF (aZ x).2).2).1<=(aI (aF (aZ x).2).2).2.objs.length:=by rw[(hY _).2.1];exact j.2.2
 refine(c.gZ F hle).elim λQM d=>d.elim λND d=>d.elim λvv d=>d.elim λBi d=>?_;have y:=d.1;rw[M]at y;simp only[Option.some.injEq,Value.slice.injEq,Addr.mk.injEq,and_true,true_and]at y;have oU:=y.1;subst oU;have m:=d.2.2.1;have ov:=d.2.2.2.1;have ju:=d.2.2.2.2;have hO:=j.1.vK _ (fU F hle);refine ov.form.elim λpv z=>z.elim λcv z=>?_;have b:=z.1;subst b;have KG:=dP bM (aK (aI (aF (aZ x).2).2).2.objs (aI (aF (aZ x).2).2).1).bp;have T0:(aK (aI (aF (aZ x).2).2).2.objs (aI (aF (aZ x).2).2).1).bp.length<=8:=by
  rcases hO.2 with ⟨_,J⟩|⟨_,K,L⟩
  ·omega
  rw[L];exact ec ok K
 repeat' ((first|refine ld m ?_|refine ay ?_|refine av ?_|refine ptr ?_)<;>conv=>whnf)
 refine ax (de _ _ _ _) ?_;conv=>whnf
 by_cases N:0<=(aF (aZ x).2).1/\(aF (aZ x).2).1 < (aK (aI (aF (aZ x).2).2).2.objs (aI (aF (aZ x).2).2).1).bp.length
 rotate_left
 ·rw[if_pos N];apply aU<;>intro i;all_goals conv=>whnf
  ·refine aG (iH c 3) (λv h9 a=>?_);conv=>whnf
   exact a.trans p o
  exfalso;omega
 rw[if_neg (by simpa using N)];apply aU<;>intro i;all_goals conv=>whnf
 ·exfalso;omega
 have Mn:((aF (aZ x).2).1).toNat < (aK (aI (aF (aZ x).2).2).2.objs (aI (aF (aZ x).2).2).1).bp.length:=by omega
 refine(c.x9 F hle Mn).elim λT1 e=>e.elim λT2 e=>e.elim λbv e=>e.elim λT3 e=>?_;have H:=e.1;have S:=e.2.1;have z3:=e.2.2.1;have z4:=e.2.2.2;rw[M]at H;simp only[Option.some.injEq,Value.slice.injEq,Addr.mk.injEq,and_true,true_and]at H;have zb:=H.1;subst zb;rw[S]at m;simp only[Option.some.injEq,Value.slice.injEq,true_and]at m;have zp:=m.1;have zc:=m.2;subst zp;subst zc;repeat' ((first|exact trivial|refine ld S ?_|refine ay ?_|refine ptr ?_|apply And.intro)<;>conv=>whnf)
 all_goals
  refine z4 (aZ x).1 _ (λh9 a=>?_);conv=>whnf
  exact a.trans p o
theorem BN {h0 h:Heap} {j:Nat} {P:List Value} {u:aS} {x:Sx} {B:List Nat} (hX:XS h0 h j P u x B) (hs:jn u x) (ok:cn u.aq) (k:Int) (hk:k=0\/k=1) :
  bI prog 148 [.pointer (some ⟨j,0,none⟩),.int .i64 k,.bool false] h λ_ h'=>XR h0 h j P u B (qL u x k false) h':=by
 have Gj:qL u x k false=if (bw u (aI (aF x).2).2 (aI (aF x).2).1 (-1-k)).bad then bw u (aI (aF x).2).2 (aI (aF x).2).1 (-1-k)else if ¬(0<=(aF x).1/\(aF x).1 < (aK (bw u (aI (aF x).2).2 (aI (aF x).2).1 (-1-k)).objs (aI (aF x).2).1).bp.length)then cz (bw u (aI (aF x).2).2 (aI (aF x).2).1 (-1-k)) 3 else cY (bw u (aI (aF x).2).2 (aI (aF x).2).1 (-1-k)) ((aK (bw u (aI (aF x).2).2 (aI (aF x).2).1 (-1-k)).objs (aI (aF x).2).1).bp.getD (aF x).1.toNat cE):=rfl
 rw[Gj];have IY:=hX;have M:=hs;have V:=Ev.refl h (j::B);have R:rd h j 3=rd h j 3:=rfl;refine bT aB func148 LG J9 rfl ?_;conv=>whnf
 refine aG (kH IY M) (λv H a=>?_);have e:=a.1;subst e;refine a.2.elim λB2 z=>?_;have AJ:=z.1;have W:=V.trans z.2.1;have S:=z.2.2.trans R;have N:=M.word;conv=>whnf
 refine aG (sZ AJ N.1) (λv I a=>?_);have e:=a.1;subst e;refine a.2.elim λB3 A=>?_;have O0:=A.1;have X:=W.trans A.2.1;have T:=A.2.2.trans S;have i:=jn.ref N.1;conv=>whnf
 refine av ?_;conv=>whnf
 refine aG (qN O0 i.1 ok _ (-1-k) (by rw[(hY _).2.1];exact i.2) O) (λv J a=>?_);refine a.2.1.elim λbn e=>e.elim λon e=>?_;subst e;refine a.1.elim λG C=>?_;have b:=C.1;have jV:=a.2.2;have q:=X.trans C.2.1;have p:=C.2.2.trans T;by_cases f:(bw u (aI (aF x).2).2 (aI (aF x).2).1 (-1-k)).bad
 ·rw[if_pos f];have t:=b.jl.1;have s:=b.jl.2.1;conv=>whnf
  refine ld t ?_;conv=>whnf
  apply dM<;>intro m;all_goals conv=>whnf
  ·exact⟨G,b,q,p⟩
  refine ld s ?_;conv=>whnf
  refine eR (f.resolve_left (by rw[m];simp)) ?_;conv=>whnf
  exact⟨G,b,q,p⟩
 rw[if_neg f];have g:=jV f;have D:=g.1;have vJ:=g.2.1;have EP:=iT i.1 f;refine g.2.2.elim λbo g=>g.elim λco g=>?_;have K:=g.1;have E:=g.2;simp only[Value.pointer.injEq,Option.some.injEq,Addr.mk.injEq,and_true]at E;have yc:=E.1;have BM:=E.2;subst yc;subst BM;rw[vJ]at f b ⊢;have nu:(aI (aF x).2).2.st=false:=by
  cases a:(aI (aF x).2).2.st with
  | false=>rfl
  | true=>exact absurd (.inl a) f
 have D1:(aI (aF x).2).2.ft=0:=by
  have h1:=i.1.ft;have H:¬0 < (aI (aF x).2).2.ft:=λhx=>f (.inr hx);omega
 have t:=b.jl.1;have s:=b.jl.2.1;rw[nu]at t;rw[D1]at s;conv=>whnf
 repeat' ((first|refine ld t ?_|refine ld s ?_|refine ay ?_|refine av ?_|refine ptr ?_)<;>conv=>whnf)
 have hle:(aI (aF x).2).1<=(aI (aF x).2).2.objs.length:=by rw[(hY _).2.1];exact i.2.2
 refine(b.gZ D hle).elim λQM c=>c.elim λND c=>c.elim λvv c=>c.elim λBi c=>?_;have w:=c.1;rw[K]at w;simp only[Option.some.injEq,Value.slice.injEq,Addr.mk.injEq,and_true,true_and]at w;have oU:=w.1;subst oU;have o:=c.2.2.1;have ov:=c.2.2.2.1;have ju:=c.2.2.2.2;have hO:=i.1.vK _ (fU D hle);refine ov.form.elim λpv y=>y.elim λcv y=>?_;have e:=y.1;subst e;have KG:=dP bM (aK (aI (aF x).2).2.objs (aI (aF x).2).1).bp;have T0:(aK (aI (aF x).2).2.objs (aI (aF x).2).1).bp.length<=8:=by
  rcases hO.2 with ⟨_,H⟩|⟨_,I,J⟩
  ·omega
  rw[J];exact ec ok I
 repeat' ((first|refine ld o ?_|refine ay ?_|refine av ?_|refine ptr ?_)<;>conv=>whnf)
 refine ax (de _ _ _ _) ?_;conv=>whnf
 by_cases L:0<=(aF x).1/\(aF x).1 < (aK (aI (aF x).2).2.objs (aI (aF x).2).1).bp.length
 rotate_left
 ·rw[if_pos L];apply aU<;>intro m;all_goals conv=>whnf
  ·refine aG (iH b 3) (λv Y a=>?_);conv=>whnf
   exact a.trans q p
  exfalso;omega
 rw[if_neg (by simpa using L)];apply aU<;>intro m;all_goals conv=>whnf
 ·exfalso;omega
 have Mn:((aF x).1).toNat < (aK (aI (aF x).2).2.objs (aI (aF x).2).1).bp.length:=by omega
 refine(b.x9 D hle Mn).elim λT1 d=>d.elim λT2 d=>d.elim λbv d=>d.elim λT3 d=>?_;have F:=d.1;have Q:=d.2.1;have z3:=d.2.2.1;have z4:=d.2.2.2;rw[K]at F;simp only[Option.some.injEq,Value.slice.injEq,Addr.mk.injEq,and_true,true_and]at F;have zb:=F.1;subst zb;rw[Q]at o;simp only[Option.some.injEq,Value.slice.injEq,true_and]at o;have zp:=o.1;have zc:=o.2;subst zp;subst zc;repeat' ((first|refine ld Q ?_|refine dh z3 ?_|refine ay ?_|refine av ?_|refine ptr ?_)<;>conv=>whnf)
 refine aG (jT b i.1.x8 i.1.tJ _) (λv Y a=>?_);conv=>whnf
 exact a.trans q p
theorem zG {h0 h:Heap} {v:Nat} {Q:List Value} {u:aS} {x:Sx} {B:List Nat} (hX:XS h0 h v Q u x B) (p:jn u x) (ok:cn u.aq) (k i:Int) (hk:0<=k/\k < u.aq.length) (hi:0<=i/\i < (cP u.aq k).length) :
  bI prog 149 [.pointer (some ⟨v,0,none⟩),.int .i64 k,.int .i64 i,.bool true] h λ_ h'=>XR h0 h v Q u B (mG u x k i true) h':=by
 have Gj:mG u x k i true=if (bw u (aI (aZ x).2).2 (aI (aZ x).2).1 k).bad then bw u (aI (aZ x).2).2 (aI (aZ x).2).1 k else DY (bw u (aI (aZ x).2).2 (aI (aZ x).2).1 k) (aI (aZ x).2).1 i (aZ x).1:=rfl
 rw[Gj];refine bT aB func149 LH Ka rfl ?_;conv=>whnf
 refine aG (uK hX p.x8 p.tJ) (λR Y a=>?_);have e:=a.1;subst e;refine a.2.elim λB1 D=>?_;have IY:=D.1;have W:=D.2.1;have T:=D.2.2;have P:=p.pop.1;have TZ:=p.pop.2;have Mm:(aZ x).2.objs=x.objs:=(jw x).2.1;rw[<-Mm]at TZ;conv=>whnf
 refine aG (sZ IY P) (λR m a=>?_);have e:=a.1;subst e;refine a.2.elim λB3 E=>?_;have O0:=E.1;have X:=W.trans E.2.1;have V:=E.2.2.trans T;have j:=jn.ref P;conv=>whnf
 refine aG (qN O0 j.1 ok _ k (by rw[(hY _).2.1];exact j.2) O) (λR o a=>?_);refine a.2.1.elim λbn e=>e.elim λon e=>?_;subst e;refine a.1.elim λK F=>?_;have d:=F.1;have jV:=a.2.2;have y:=X.trans F.2.1;have w:=F.2.2.trans V;by_cases f:(bw u (aI (aZ x).2).2 (aI (aZ x).2).1 k).bad
 ·rw[if_pos f];have t:=d.jl.1;have s:=d.jl.2.1;conv=>whnf
  refine ld t ?_;conv=>whnf
  apply dM<;>intro L;all_goals conv=>whnf
  ·exact⟨K,d,y,w⟩
  refine ld s ?_;conv=>whnf
  refine eR (f.resolve_left (by rw[L];simp)) ?_;conv=>whnf
  exact⟨K,d,y,w⟩
 rw[if_neg f];have g:=jV f;have G:=g.1;have vJ:=g.2.1;have H:=iT j.1 f;refine g.2.2.elim λbo g=>g.elim λco g=>?_;have N:=g.1;have I:=g.2;simp only[Value.pointer.injEq,Option.some.injEq,Addr.mk.injEq,and_true]at I;have yc:=I.1;have BM:=I.2;subst yc;subst BM;rw[vJ]at f d ⊢;have nu:(aI (aZ x).2).2.st=false:=by
  cases a:(aI (aZ x).2).2.st with
  | false=>rfl
  | true=>exact absurd (.inl a) f
 have D1:(aI (aZ x).2).2.ft=0:=by
  have Y:=j.1.ft;have z:¬0 < (aI (aZ x).2).2.ft:=λhx=>f (.inr hx);omega
 have t:=d.jl.1;have s:=d.jl.2.1;rw[nu]at t;rw[D1]at s;conv=>whnf
 repeat' ((first|refine ld t ?_|refine ld s ?_|refine ay ?_|refine av ?_|refine ptr ?_)<;>conv=>whnf)
 have hle:(aI (aZ x).2).1<=(aI (aZ x).2).2.objs.length:=by rw[(hY _).2.1];exact j.2.2
 refine(d.gZ G hle).elim λQM b=>b.elim λND b=>b.elim λvv b=>b.elim λBi b=>?_;have A:=b.1;rw[N]at A;simp only[Option.some.injEq,Value.slice.injEq,Addr.mk.injEq,and_true,true_and]at A;have oU:=A.1;subst oU;have q:=b.2.2.1;have ov:=b.2.2.2.1;have ju:=b.2.2.2.2;have M:=j.1.vK _ (fU G hle);refine ov.form.elim λpv C=>C.elim λcv C=>?_;have e:=C.1;subst e;have KG:=dP bM (aK (aI (aZ x).2).2.objs (aI (aZ x).2).1).bp;have T0:(aK (aI (aZ x).2).2.objs (aI (aZ x).2).1).bp.length<=8:=by
  rcases M.2 with ⟨_,z⟩|⟨_,m,o⟩
  ·omega
  rw[o];exact ec ok m
 have rG:0<=(aK (aI (aZ x).2).2.objs (aI (aZ x).2).1).cls/\up u.aq (aK (aI (aZ x).2).2.objs (aI (aZ x).2).1).cls k=true:=by
  unfold eG at H;simp at H;have:=H.2 hk.1;exact this
 have Ny:(cP u.aq k).length<=(aK (aI (aZ x).2).2.objs (aI (aZ x).2).1).bp.length:=by
  rcases M.2 with ⟨z,_⟩|⟨z,m,o⟩
  ·omega
  rw[o];exact qD ok ((aK (aI (aZ x).2).2.objs (aI (aZ x).2).1).cls.toNat+1) O m rG.2
 have Mn:(i).toNat < (aK (aI (aZ x).2).2.objs (aI (aZ x).2).1).bp.length:=by omega
 refine(d.x9 G hle Mn).elim λT1 c=>c.elim λT2 c=>c.elim λbv c=>c.elim λT3 c=>?_;have J:=c.1;have S:=c.2.1;have z3:=c.2.2.1;have z4:=c.2.2.2;rw[N]at J;simp only[Option.some.injEq,Value.slice.injEq,Addr.mk.injEq,and_true,true_and]at J;have zb:=J.1;subst zb;rw[S]at q;simp only[Option.some.injEq,Value.slice.injEq,true_and]at q;have zp:=q.1;have zc:=q.2;subst zp;subst zc;repeat' ((first|exact trivial|refine ld S ?_|refine ay ?_|refine ptr ?_|apply And.intro)<;>conv=>whnf)
 all_goals
  refine z4 (aZ x).1 _ (λh9 a=>?_);conv=>whnf
  exact a.trans y w
theorem zH {h0 h:Heap} {m:Nat} {N:List Value} {u:aS} {x:Sx} {B:List Nat} (W:XS h0 h m N u x B) (hs:jn u x) (ok:cn u.aq) (k i:Int) (hk:0<=k/\k < u.aq.length) (hi:0<=i/\i < (cP u.aq k).length) :
  bI prog 149 [.pointer (some ⟨m,0,none⟩),.int .i64 k,.int .i64 i,.bool false] h λ_ h'=>XR h0 h m N u B (mG u x k i false) h':=by
 have Gj:mG u x k i false=if (bw u (aI x).2 (aI x).1 k).bad then bw u (aI x).2 (aI x).1 k else cY (bw u (aI x).2 (aI x).1 k) ((aK (bw u (aI x).2 (aI x).1 k).objs (aI x).1).bp.getD i.toNat cE):=rfl
 rw[Gj];have X:=W;have M:=hs;have T:=Ev.refl h (m::B);have R:rd h m 3=rd h m 3:=rfl;refine bT aB func149 LH Ka rfl ?_;conv=>whnf
 refine aG (sZ X M) (λP o b=>?_);have j:=b.1;subst j;refine b.2.elim λB3 C=>?_;have Y:=C.1;have V:=T.trans C.2.1;have S:=C.2.2.trans R;have g:=jn.ref M;conv=>whnf
 refine aG (qN Y g.1 ok _ k (by rw[(hY _).2.1];exact g.2) O) (λP p b=>?_);refine b.2.1.elim λbn j=>j.elim λon j=>?_;subst j;refine b.1.elim λI D=>?_;have a:=D.1;have jV:=b.2.2;have w:=V.trans D.2.1;have v:=D.2.2.trans S;by_cases e:(bw u (aI x).2 (aI x).1 k).bad
 ·rw[if_pos e];have t:=a.jl.1;have s:=a.jl.2.1;conv=>whnf
  refine ld t ?_;conv=>whnf
  apply dM<;>intro J;all_goals conv=>whnf
  ·exact⟨I,a,w,v⟩
  refine ld s ?_;conv=>whnf
  refine eR (e.resolve_left (by rw[J];simp)) ?_;conv=>whnf
  exact⟨I,a,w,v⟩
 rw[if_neg e];have f:=jV e;have E:=f.1;have vJ:=f.2.1;have F:=iT g.1 e;refine f.2.2.elim λbo f=>f.elim λco f=>?_;have L:=f.1;have G:=f.2;simp only[Value.pointer.injEq,Option.some.injEq,Addr.mk.injEq,and_true]at G;have yc:=G.1;have BM:=G.2;subst yc;subst BM;rw[vJ]at e a ⊢;have nu:(aI x).2.st=false:=by
  cases b:(aI x).2.st with
  | false=>rfl
  | true=>exact absurd (.inl b) e
 have D1:(aI x).2.ft=0:=by
  have h1:=g.1.ft;have y:¬0 < (aI x).2.ft:=λhx=>e (.inr hx);omega
 have t:=a.jl.1;have s:=a.jl.2.1;rw[nu]at t;rw[D1]at s;conv=>whnf
 repeat' ((first|refine ld t ?_|refine ld s ?_|refine ay ?_|refine av ?_|refine ptr ?_)<;>conv=>whnf)
 have hle:(aI x).1<=(aI x).2.objs.length:=by rw[(hY _).2.1];exact g.2.2
 refine(a.gZ E hle).elim λQM c=>c.elim λND c=>c.elim λvv c=>c.elim λBi c=>?_;have z:=c.1;rw[L]at z;simp only[Option.some.injEq,Value.slice.injEq,Addr.mk.injEq,and_true,true_and]at z;have oU:=z.1;subst oU;have q:=c.2.2.1;have ov:=c.2.2.2.1;have ju:=c.2.2.2.2;have K:=g.1.vK _ (fU E hle);refine ov.form.elim λpv A=>A.elim λcv A=>?_;have j:=A.1;subst j;have KG:=dP bM (aK (aI x).2.objs (aI x).1).bp;have T0:(aK (aI x).2.objs (aI x).1).bp.length<=8:=by
  rcases K.2 with ⟨_,y⟩|⟨_,o,p⟩
  ·omega
  rw[p];exact ec ok o
 have rG:0<=(aK (aI x).2.objs (aI x).1).cls/\up u.aq (aK (aI x).2.objs (aI x).1).cls k=true:=by
  unfold eG at F;simp at F;have:=F.2 hk.1;exact this
 have Ny:(cP u.aq k).length<=(aK (aI x).2.objs (aI x).1).bp.length:=by
  rcases K.2 with ⟨y,_⟩|⟨y,o,p⟩
  ·omega
  rw[p];exact qD ok ((aK (aI x).2.objs (aI x).1).cls.toNat+1) O o rG.2
 have Mn:(i).toNat < (aK (aI x).2.objs (aI x).1).bp.length:=by omega
 refine(a.x9 E hle Mn).elim λT1 d=>d.elim λT2 d=>d.elim λbv d=>d.elim λT3 d=>?_;have H:=d.1;have Q:=d.2.1;have z3:=d.2.2.1;have z4:=d.2.2.2;rw[L]at H;simp only[Option.some.injEq,Value.slice.injEq,Addr.mk.injEq,and_true,true_and]at H;have zb:=H.1;subst zb;rw[Q]at q;simp only[Option.some.injEq,Value.slice.injEq,true_and]at q;have zp:=q.1;have zc:=q.2;subst zp;subst zc;repeat' ((first|refine ld Q ?_|refine dh z3 ?_|refine ay ?_|refine av ?_|refine ptr ?_)<;>conv=>whnf)
 refine aG (jT a g.1.x8 g.1.tJ _) (λP h9 b=>?_);conv=>whnf
 exact b.trans w v
theorem XS.loc {h0 h:Heap} {e:Nat} {x:List Value} {u:aS} {y:Sx} {B:List Nat} {d:Nat} (E:XS h0 h e x u y B) (N:Tp h e y.fs.length d) {i:Nat} (j:i < y.f.locals.length) :
  ∃ a z,rd h d (y.fs.length*4+2)=some (.slice (some ⟨a,0,none⟩) (List.map bM y.f.locals).length z)/\dQ h a (0+i*2) 2=some (bM (y.f.locals.getD i cE)) /\
   ∀(v:Vl) (K:Heap->Prop),(∀ h',XR h0 h e x u B {y with f:={y.f with locals:=y.f.locals.set i v} } h'->K h')->St h a (0+i*2) [.bool v.ref,.int .i64 v.n] K:=by
 obtain⟨ad,ab,r,v1,V,X,q,s,hq,p,Q,nd,DJ,J,Wr,S⟩:=E.lens N;obtain⟨pv,A,rfl,_⟩:=p.form;obtain⟨Y,g,R,_,_,_⟩:=p.two j;obtain⟨a,pre,W,post,tt,t,_,H,M,w,rfl,T⟩:=bW.put p j;rw[t]at g;simp only[Option.some.injEq,Addr.mk.injEq,and_true]at g;subst g;subst t;refine⟨a,A,bA s (i:=2) O rfl,by rw[ox j];exact R,λv K I=>?_⟩;have P:dU (pre++W++post) (0+i*2) [.bool v.ref,.int .i64 v.n]=pre++bM v++post:=jN O (by rw[w];rfl);refine vI H (pre++bM v++post) (by simp[w,bM,M]<;>omega) P (λh' C D=>?_);have m:∀ b,b≠a->h' b=h b:=λb c=>by rw[C];simp only[Heap.set,c,if_false]
 have G:=J a Z;have F:∀ b∈q,b≠a:=by
  rintro b c rfl;have:=nd b;have:=List.count_pos_iff.2 c;simp only[List.count_append,List.count_cons,List.count_nil,beq_self_eq_true,if_true]at *;omega
 refine I h' (S h' {y.f with locals:=y.f.locals.set i v} _ V [a] q ?_ ?_ (T _ v D) ?_ (λb c=>.inl c) nd)
 ·rw[m d (λo=>G.1 o.symm)];exact s
 ·intro b c _;exact m b (λo=>c (by simp[o]))
 exact Q.aJ λb c aa L=>by rw[m b (F b c)];exact L
def eE (x:Sx) (i:dc):Sx :=
 if i.kind=1 then cY x ⟨false,i.a⟩
 else if i.kind=2 then cY x ⟨true,0⟩
 else if i.kind=3 then cY x (x.f.locals.getD i.a.toNat cE)
 else if i.kind=4 then { (aZ x).2 with f:={ (aZ x).2.f with locals:=(aZ x).2.f.locals.set i.a.toNat (aZ x).1} }
 else if i.kind=5 then (aZ x).2
 else if i.kind=6 then cY (cY (aZ x).2 (aZ x).1) (aZ x).1
 else if i.kind=7 then Gf x i.a
 else if i.kind=24 then (if (aF x).2.st=false then { (aF x).2 with said:=(aF x).2.said++[(aF x).1]}else (aF x).2)
 else x
def fM (u:aS) (x:Sx) (i:dc):Sx :=
 if i.kind=12 then BJ u x i.a
 else if i.kind=13 then kG x i.a
 else if i.kind=14 then oV x
 else if i.kind=15 then qL u x i.a false
 else if i.kind=16 then qL u x i.a true
 else if i.kind=17 then mG u x i.a i.b false
 else if i.kind=18 then mG u x i.a i.b true
 else if i.kind=19 then oW u x i.a
 else x
def ek (x:Sx) (i:dc):Bool × Sx :=
 if i.kind=8 then (decide ((aF (aF x).2).1 < (aF x).1),(aF (aF x).2).2)
 else if i.kind=9 then (decide ((aF (aF x).2).1=(aF x).1),(aF (aF x).2).2)
 else if i.kind=10 then (decide ((aI x).1=0),(aI x).2)
 else (decide (i.kind=11),x)
theorem wI (x:Sx):(aZ x).2.said=x.said:=by unfold aZ;split<;>rfl
theorem BO (x:Sx):(aF x).2.said=x.said:=by unfold aF;split<;>exact wI x
structure Mo (u:aS) (x:Sx) (i:dc):Prop where
 loc:i.kind=3\/i.kind=4->0<=i.a/\i.a < x.f.locals.length
 arr:i.kind=13\/i.kind=15\/i.kind=16->i.a=0\/i.a=1
 sn:qJ u i
theorem IZ {h0 h:Heap} {p:Nat} {Q:List Value} {u:aS} {x:Sx} {B:List Nat} (g:XS h0 h p Q u x B) (e:jn u x) (j a b:Int) (hi:Mo u x ⟨j,a,b⟩) (KH:x.said.length<=1000) :
  bI prog 106 [.pointer (some ⟨p,0,none⟩),.agg #[.int .i64 j,.int .i64 a,.int .i64 b]] h λ_ h'=>XR h0 h p Q u B (eE x ⟨j,a,b⟩) h':=by
 obtain⟨V,s⟩:=g.tp;have oK:=qK g s e.x8;obtain⟨E,_,_⟩:=hi;simp only at E;have push:∀ v:Vl,bI prog 139 [.pointer (some ⟨p,0,none⟩),KF v] h λ_ h'=>XR h0 h p Q u B (cY x v) h':=λv=>jT g e.x8 e.tJ v;refine bT aB func106 RF U rfl ?_;conv=>whnf
 refine ax oK ?_;conv=>whnf
 by_cases H:j=1
 ·subst H;conv=>whnf
  refine ax (lC _ _) ?_;conv=>whnf
  refine aG (push _) (λv m c=>?_);conv=>whnf
  exact c
 refine cx H ?_;conv=>whnf
 by_cases I:j=2
 ·subst I;conv=>whnf
  refine ax (jU _ _) ?_;conv=>whnf
  refine aG (push _) (λv m c=>?_);conv=>whnf
  exact c
 refine cx I ?_;conv=>whnf
 by_cases K:j=3
 ·subst K;have ha:=E (.inl rfl);refine(g.loc s (i:=a.toNat) O).elim λbl f=>f.elim λcl f=>?_;have w:=f.1;have z2:=f.2.1;have CZ:=dP bM x.f.locals;conv=>whnf
  repeat' ((first|exact trivial|refine ld w ?_|refine dh z2 ?_|refine ay ?_|refine ptr ?_|apply And.intro)<;>conv=>whnf)
  all_goals
   refine aG (push (x.f.locals.getD a.toNat cE)) (λv m c=>?_);conv=>whnf
   exact c
 refine cx K ?_;conv=>whnf
 by_cases L:j=4
 ·subst L;have ha:=E (.inr rfl);have T4:=Gg g e.x8 e.tJ;refine(g.loc s (i:=a.toNat) O).elim λbl f=>f.elim λcl f=>?_;have w:=f.1;have CZ:=dP bM x.f.locals;conv=>whnf
  repeat' ((first|exact trivial|refine ld w ?_|refine ay ?_|refine ptr ?_|apply And.intro)<;>conv=>whnf)
  all_goals
   refine aG T4 (λv m c=>?_);have t:=c.1;subst t;refine c.2.1.elim λz d=>?_;have o:=d.1;have O1:=(c.2.2 V s).trans w;have ht1:Tp m p (aZ x).2.fs.length V:=by
    obtain⟨c0,k0⟩:=s;exact⟨c0,by rw[d.2.2,(jw x).1];exact k0⟩
   refine(o.loc ht1 (i:=a.toNat) (by rw[(jw x).2.2.2];omega)).elim λbl2 f=>f.elim λcl2 f=>?_;have S:=f.1;have y3:=f.2.2;rw[(jw x).1,O1,(jw x).2.2.2]at S;simp only[Option.some.injEq,Value.slice.injEq,Addr.mk.injEq,and_true,true_and]at S;have yb:=S.1;subst yb;conv=>whnf
   repeat' ((first|refine ld O1 ?_|refine ay ?_|refine ptr ?_)<;>conv=>whnf)
   refine y3 (aZ x).1 _ (λh9 hh9=>?_);conv=>whnf
   exact hh9.trans d.2.1 d.2.2
 refine cx L ?_;conv=>whnf
 by_cases M:j=5
 ·subst M;conv=>whnf
  refine aG (uK g e.x8 e.tJ) (λv m c=>?_);conv=>whnf
  exact c.2
 refine cx M ?_;conv=>whnf
 by_cases N:j=6
 ·subst N;conv=>whnf
  refine aG (uK g e.x8 e.tJ) (λv m c=>?_);have t:=c.1;subst t;refine c.2.elim λz d=>?_;have G:=e.pop.1;have hvw:=e.pop.2;conv=>whnf
  refine aG (jT d.1 G.x8 G.tJ (aZ x).1) (λv h2 c=>?_);refine c.elim λT D=>?_;have IX:=G.push (v:=(aZ x).1) (by rw[(jw x).2.1];exact hvw);conv=>whnf
  refine aG (jT D.1 IX.x8 IX.tJ (aZ x).1) (λv X c=>?_);conv=>whnf
  exact(c.trans D.2.1 D.2.2).trans d.2.1 d.2.2
 refine cx N ?_;conv=>whnf
 by_cases P:j=7
 ·subst P;conv=>whnf
  refine aG (TW g e a) (λv m c=>?_);conv=>whnf
  exact c
 refine cx P ?_;conv=>whnf
 by_cases J:j=24
 ·subst J;conv=>whnf
  refine aG (kH g e) (λv m c=>?_);have t:=c.1;subst t;refine c.2.elim λz d=>?_;have o:=d.1;have r9:=o.jl.1;have F:eE x ⟨24,a,b⟩=(if (aF x).2.st=false then { (aF x).2 with said:=(aF x).2.said++[(aF x).1]}else (aF x).2):=rfl;rw[F];have KI:(aF x).2.said.length<=1000:=by
   rw[BO];exact KH
  generalize (aF x).2=y at d o r9 KI ⊢;conv=>whnf
  refine ld r9 ?_;conv=>whnf
  apply cq<;>intro A;all_goals conv=>whnf
  ·rw[if_pos A];refine(o.ma.Ks (show y.x5.said.length<=1000 from KI)).elim λaa q=>q.elim λps q=>q.elim λcs q=>q.elim λvo q=>q.elim λR q=>q.elim λC grow=>?_;have r4:rd m p 4=some (.slice ps y.said.length cs):=bA C (i:=2) (by rw[o.CX]) rfl;have r3:rd m p 3=some R:=bA C (i:=1) (by rw[o.CX]) rfl;repeat' ((first|exact trivial|refine ld r4 ?_|apply And.intro)<;>conv=>whnf)
   all_goals
    refine grow (aF x).1 [] _ _ ⟨rfl,rfl⟩ (λ_=>Z) Z rfl rfl rfl rfl Z ?_;rintro p' c' h2 e1 e2 e3 ⟨T,Y,W⟩;have yE:=e1.trans C;conv=>whnf
    refine jd yE (i:=2) (aE vo R (.slice p' (y.x5.said.length+1) c') y.x5) (by rw[o.CX]) (by simp[aE]) rfl (λX tB FK=>?_);rw[<-tB]at Y W;conv=>whnf
    have q3:rd X p 3=some R:=bA FK (i:=1) (by rw[o.CX]) rfl;exact⟨T,⟨Y,g.un⟩,d.2.1.trans (by simpa using W),(q3.trans r3.symm).trans d.2.2⟩
  rw[if_neg (by rw[A];simp)];exact⟨z,o,d.2⟩
 refine cx J ?_;conv=>whnf
 have F:eE x ⟨j,a,b⟩=x:=by simp[eE,H,I,K,L,M,N,P,J]
 rw[F];exact⟨B,g,Ev.refl _ _,rfl⟩
theorem Mp {h0 h:Heap} {m:Nat} {A:List Value} {u:aS} {x:Sx} {B:List Nat} (e:XS h0 h m A u x B) (f:jn u x) (ok:cn u.aq) (d a b:Int) (C:Mo u x ⟨d,a,b⟩) :
  bI prog 107 [.pointer (some ⟨m,0,none⟩),.agg #[.int .i64 d,.int .i64 a,.int .i64 b]] h λ_ h'=>XR h0 h m A u B (fM u x ⟨d,a,b⟩) h':=by
 obtain⟨_,j,i⟩:=C;simp only[qJ]at j i;refine bT aB func107 LD J7 rfl ?_;conv=>whnf
 by_cases o:d=12
 ·subst o;conv=>whnf
  refine aG (IV e f ok a (i.1 Z)) (λv g c=>?_);conv=>whnf
  exact c
 refine cx o ?_;conv=>whnf
 by_cases p:d=13
 ·subst p;conv=>whnf
  refine aG (IW e f a (j Z)) (λv g c=>?_);conv=>whnf
  exact c
 refine cx p ?_;conv=>whnf
 by_cases q:d=14
 ·subst q;conv=>whnf
  refine aG (Mk e f) (λv g c=>?_);conv=>whnf
  exact c
 refine cx q ?_;conv=>whnf
 by_cases s:d=15
 ·subst s;conv=>whnf
  refine aG (BN e f ok a (j Z)) (λv g c=>?_);conv=>whnf
  exact c
 refine cx s ?_;conv=>whnf
 by_cases t:d=16
 ·subst t;conv=>whnf
  refine aG (BL e f ok a (j Z)) (λv g c=>?_);conv=>whnf
  exact c
 refine cx t ?_;conv=>whnf
 by_cases w:d=17
 ·subst w;conv=>whnf
  refine aG (zH e f ok a b (i.1 Z) (i.2 Z)) (λv g c=>?_);conv=>whnf
  exact c
 refine cx w ?_;conv=>whnf
 by_cases y:d=18
 ·subst y;conv=>whnf
  refine aG (zG e f ok a b (i.1 Z) (i.2 Z)) (λv g c=>?_);conv=>whnf
  exact c
 refine cx y ?_;conv=>whnf
 by_cases z:d=19
 ·subst z;conv=>whnf
  refine aG (Ml e f ok a (i.1 Z)) (λv g c=>?_);conv=>whnf
  exact c
 refine cx z ?_;conv=>whnf
 have D:fM u x ⟨d,a,b⟩=x:=by simp[fM,o,p,q,s,t,w,y,z]
 rw[D];exact⟨B,e,Ev.refl _ _,rfl⟩
theorem I0 {h0 h:Heap} {j:Nat} {t:List Value} {u:aS} {x:Sx} {B:List Nat} (g:XS h0 h j t u x B) (i:jn u x) (e a b:Int) :
  bI prog 105 [.pointer (some ⟨j,0,none⟩),.agg #[.int .i64 e,.int .i64 a,.int .i64 b]] h λv h'=>v=.bool (ek x ⟨e,a,b⟩).1/\XR h0 h j t u B (ek x ⟨e,a,b⟩).2 h':=by
 have s:=i.word.1;refine bT aB func105 RE U rfl ?_;conv=>whnf
 by_cases o:e=8
 ·subst o;conv=>whnf
  refine aG (kH g i) (λv q c=>?_);have d:=c.1;subst d;refine c.2.elim λw f=>?_;conv=>whnf
  refine aG (kH f.1 s) (λv y c=>?_);have d:=c.1;subst d;conv=>whnf
  exact⟨rfl,c.2.trans f.2.1 f.2.2⟩
 refine cx o ?_;conv=>whnf
 by_cases p:e=9
 ·subst p;conv=>whnf
  refine aG (kH g i) (λv q c=>?_);have d:=c.1;subst d;refine c.2.elim λw f=>?_;conv=>whnf
  refine aG (kH f.1 s) (λv y c=>?_);have d:=c.1;subst d;conv=>whnf
  exact⟨rfl,c.2.trans f.2.1 f.2.2⟩
 refine cx p ?_;conv=>whnf
 by_cases m:e=10
 ·subst m;conv=>whnf
  refine aG (sZ g i) (λv q c=>?_);have d:=c.1;subst d;conv=>whnf
  exact⟨rfl,c.2⟩
 refine cx m ?_;conv=>whnf
 have z:ek x ⟨e,a,b⟩=(decide (e=11),x):=by simp[ek,o,p,m]
 rw[z];exact⟨rfl,B,g,Ev.refl _ _,rfl⟩
def XE (h0 h:Heap) (a:Nat) (c:List Value) (u:aS) (B:List Nat) (r:bH × Bool × Int) (h':Heap):Prop:=∃ b,XM h0 h' a c u r.1 r.2.1 r.2.2 b/\Ev h h' (a::B) (a::b)
def Sx.res (x:Sx):bH × Bool × Int:=(x.x5,x.st,x.ft)
theorem XR.Mq {h0 h:Heap} {a:Nat} {b:List Value} {u:aS} {B:List Nat} {y:Sx} {h':Heap} (f:XR h0 h a b u B y h'):XE h0 h a b u B y.res h':=by
 obtain⟨c,d,e,_⟩:=f;exact⟨c,d,e⟩
theorem XE.trans {h0 h b c:Heap} {a:Nat} {d:List Value} {u:aS} {B B1:List Nat} {r:bH × Bool × Int} (i:Ev h b (a::B) (a::B1)) (j:XE h0 b a d u B1 r c):XE h0 h a d u B r c:=by
 obtain⟨e,f,g⟩:=j;exact⟨e,f,i.trans g⟩
theorem XS.ij {h0 h:Heap} {b:Nat} {e:List Value} {u:aS} {x:Sx} {B:List Nat} {a:Nat} (o:XS h0 h b e u x B) (t:Tp h b x.fs.length a) :
  rd h a (x.fs.length*4+1)=some (.int .i64 x.f.pc)/\∀(n:Int) (K:Heap->Prop),(∀ h',XR h0 h b e u B {x with f:={x.f with pc:=n} } h'->K h')->St h a (x.fs.length*4+1) [.int .i64 n] K:=by
 obtain⟨G,E,r,z,w,j,g,d,D,v,C,F,y⟩:=o.cA t;refine⟨bA d (i:=1) O rfl,λn K s=>?_⟩;have c:=(y h _ g x.f.stack n (λ_ _ _=>rfl) v (λA p=>.inl p)).2;refine jd d (i:=1) [.int .i64 x.f.aC,.int .i64 n,z,.slice w (x.f.stack.map bM).length j] O Z rfl (λm q _=>?_);rw[<-q]at c;exact s m c
def s4 (x:Sx):bH × Bool × Int :=
 let p:=aZ x
 if p.2.st=true then p.2.res
 else match p.2.fs.getLast? with
  | none=>(⟨x.objs,[],x.said,x.steps,1,p.1⟩,p.2.st,p.2.ft)
  | some g =>
   let y:=cY {p.2 with fs:=p.2.fs.dropLast,f:=g} p.1
   ({y with f:={y.f with pc:=y.f.pc+1} }:Sx).res
theorem zI (x:Sx) (v:Vl):(cY x v).fs=x.fs/\(cY x v).f.pc=x.f.pc/\(cY x v).f.aC=x.f.aC:=by unfold cY;split<;>exact⟨rfl,rfl,rfl⟩
theorem Mr {h0 h:Heap} {e:Nat} {us:List Value} {u:aS} {x:Sx} {B:List Nat} (s:XS h0 h e us u x B) (J:jn u x) (E:∀ g∈x.fs,tC u x.objs.length g) (hc:∀ m:cu,m∈u.methods->m.code.length<=1000) :
  bI prog 100 [.pointer (some ⟨e,0,none⟩)] h λ_ h'=>XE h0 h e us u B (s4 x) h':=by
 have DZ:=J.pop.1;have H:=jw x;have Ms:=wI x;have T5:(aZ x).2.steps=x.steps/\(aZ x).2.fin=x.fin/\(aZ x).2.out=x.out:=by unfold aZ;split<;>exact⟨rfl,rfl,rfl⟩
 have W:s4 x=if (aZ x).2.st=true then (aZ x).2.res else match (aZ x).2.fs.getLast? with
  | none=>(⟨x.objs,[],x.said,x.steps,1,(aZ x).1⟩,(aZ x).2.st,(aZ x).2.ft)
  | some g=>({ (cY { (aZ x).2 with fs:=(aZ x).2.fs.dropLast,f:=g} (aZ x).1)with f:={ (cY { (aZ x).2 with fs:=(aZ x).2.fs.dropLast,f:=g} (aZ x).1).f with pc:=(cY { (aZ x).2 with fs:=(aZ x).2.fs.dropLast,f:=g} (aZ x).1).f.pc+1} }:Sx).res:=rfl
 rw[W];clear W;obtain⟨z,p,A,q,rfl,_⟩:=s.un.form;rw[<-H.1,<-H.2.1]at E;rw[<-H.2.1,<-Ms,<-T5.1];refine bT aB func100 RA U rfl ?_;conv=>whnf
 refine aG (uK s J.x8 J.tJ) (λaa h1 v=>?_);have hv:=v.1;subst hv;refine v.2.elim λB1 Y=>?_;have o:=Y.1;have R:=Y.2.1;generalize (aZ x).2=y at E DZ o ⊢;generalize (aZ x).1=w;have r9:=o.jl.1;conv=>whnf
 refine ld r9 ?_;conv=>whnf
 apply dM<;>intro g;all_goals conv=>whnf
 ·rw[if_pos g];exact⟨B1,o,R⟩
 rw[if_neg (by rw[g];simp)];refine(o.ma.IG (fs:=y.fs) (f:=y.f) rfl).elim λtb a=>a.elim λpf a=>a.elim λQ a=>a.elim λvo a=>a.elim λvs a=>?_;have X:=a.1;have ur:=a.2.1;refine a.2.2.elim λP K=>?_;have r3:rd h1 e 3=some (.slice pf (y.fs.length+1) Q):=bA X (i:=1) (by rw[o.CX]) rfl;have KA:=DZ.nf;repeat' ((first|refine ld r3 ?_|refine ay ?_|refine av ?_|refine ptr ?_)<;>conv=>whnf)
 have O2:(((y.fs.length+1:Nat):Int)-1).toNat=y.fs.length:=by omega
 refine jd X (i:=1) (aE vo (.slice pf (((y.fs.length+1:Nat):Int)-1).toNat Q) vs y.x5) (by rw[o.CX]) (by simp[aE]) rfl (λT HY g2=>?_);rw[O2]at HY g2;rw[<-HY]at K;have D:=K.1;have S:=R.trans K.2;conv=>whnf
 rcases List.eq_nil_or_concat y.fs with b|⟨d,j,b⟩
 ·have Gk:y.fs.length=0:=by rw[b];rfl
  have F:y.fs.getLast? = none:=by rw[b];rfl
  rw[F];refine bZ ?_;conv=>whnf
  refine D.ints.elim λt2 c=>c.elim λM c=>c.elim λL c=>c.elim λN c=>?_;have oU:=c.1;have ju:=c.2.2.2.2;refine vI oU ([.slice z u.aq.length p,.slice A u.methods.length q]++aE M L N ⟨y.objs,y.fs,y.said,y.steps,1,y.out⟩++[.bool y.st,.int .i64 y.ft]) (by simp[aE]) rfl (λh3 e3 g3=>?_);conv=>whnf
  refine vI g3 ([.slice z u.aq.length p,.slice A u.methods.length q]++aE M L N ⟨y.objs,y.fs,y.said,y.steps,1,w⟩++[.bool y.st,.int .i64 y.ft]) (by simp[aE]) rfl (λV e4 g4=>?_);conv=>whnf
  have I:=ju ⟨y.objs,y.fs,y.said,y.steps,1,w⟩ rfl rfl rfl;have e5:V=T.set e (.cells (([.slice z u.aq.length p,.slice A u.methods.length q]++aE M L N ⟨y.objs,y.fs,y.said,y.steps,1,w⟩++[.bool y.st,.int .i64 y.ft]:List Value)).toArray t2 (0,0)):=by rw[e4,e3,set_set]
  rw[<-e5,b]at I;exact⟨P,⟨I.1,s.un⟩,S.trans I.2⟩
 rw[List.concat_eq_append]at b;have ko:y.fs.length=d.length+1:=by rw[b];simp
 have F:y.fs.getLast? = some j:=by rw[b];simp
 have O3:y.fs.dropLast=d:=by rw[b];simp
 rw[F];simp only[O3];have C:=E j (by rw[b];simp);have Mc:=hc _ (fB C.1);have NG:=C.2.1;have hgs:=C.2.2.2.1;rw[b]at D;have AJ:XS h0 T e [.slice z u.aq.length p,.slice A u.methods.length q] u {y with fs:=d,f:=j} P:=⟨D,s.un⟩
 refine bD ?_;conv=>whnf
 refine aG (jT AJ (by show d.length<=1000;omega) (by show j.stack.length<=1000;omega) w) (λaa h3 v=>?_);refine v.elim λB3 tB=>?_;have t:=tB.1;have vV:=S.trans tB.2.1;have G:=zI {y with fs:=d,f:=j} w;generalize cY {y with fs:=d,f:=j} w=ab at t G ⊢;refine t.tp.elim λbf ht=>?_;have EH:ab.fs.length<=1000:=by rw[G.1];show d.length<=1000;omega
 have W0:=t.ij ht;have hpz:=G.2.1;simp only at hpz;conv=>whnf
 refine ax (qK t ht EH) ?_;conv=>whnf
 refine ld W0.1 ?_;conv=>whnf
 refine av ?_;conv=>whnf
 refine W0.2 _ _ (λV Ky=>?_);conv=>whnf
 exact XE.trans vV Ky.Mq
def jW (u:aS) (n:Int) (M:bH) (b:Bool) (a:Int):bH × Bool × Int :=
 if (aK M.objs n).cls < 0\/up u.aq (aK M.objs n).cls 1=false then (M,true,a)else (bU u n M,b,a)
theorem yd {h0 h:Heap} {o:Nat} {us:List Value} {u:aS} {M:bH} {w:Bool} {p:Int} {B:List Nat} (C:XM h0 h o us u M w p B) (ok:cn u.aq) (n:Int) (V:0 < n/\n<=M.objs.length) (N7:M.objs.length<=1000) (hl:M.au.length<=1000)
  (hc : -2<=(aK M.objs n).cls/\(aK M.objs n).cls < u.aq.length) (FH:∀ g∈M.au,0<=g.aC/\g.aC < u.methods.length) (I1:∀ m∈u.methods,∀ c∈m.catches,(0<=c.hi/\c.hi<=1000)/\0<=c.cls) :
  bI prog 45 [.pointer (some ⟨o,0,none⟩),.int .i64 n] h λ_ h'=>XE h0 h o us u B (jW u n M w p) h':=by
 obtain⟨_,_,_,_,_,E,A,X,R,rfl,r0,rm,_,hcs,kS⟩:=C.jl;obtain⟨bo,co,r1,r2⟩:=C.ma.gZ V.1 V.2;have O4:(aK M.objs n).cls < 0\/up u.aq (aK M.objs n).cls 1=false->jW u n M w p=(M,true,p):=λa=>if_pos a;have uf:¬((aK M.objs n).cls < 0\/up u.aq (aK M.objs n).cls 1=false)->jW u n M w p=(bU u n M,w,p):=λa=>if_neg a;have Nw:rd h o 2=some (.slice (some ⟨bo,0,none⟩) M.objs.length co):=r1;have uC:0<=(aK M.objs n).cls->Pure prog 108 [.slice E u.aq.length A,.int .i64 (aK M.objs n).cls,.int .i64 1] h (.bool (up u.aq (aK M.objs n).cls 1)):=λh0=>pE E u.aq.length A u.aq _ 1 h hcs ok O hc.2 O;refine bT aB func45 YV U rfl ?_;conv=>whnf
 repeat' ((first|refine ld Nw ?_|refine ld r2 ?_|refine ay ?_|refine av ?_|refine ptr ?_)<;>conv=>whnf)
 apply aD<;>intro g1;all_goals conv=>whnf
 ·refine C.stuck (λd q z e1=>?_);conv=>whnf
  rw[O4 (.inl g1)];exact⟨B,q,z⟩
 repeat' ((first|refine ld r0 ?_|refine ay ?_|refine av ?_|refine ptr ?_)<;>conv=>whnf)
 refine ax (uC O) ?_;conv=>whnf
 apply cq<;>intro g2;all_goals conv=>whnf
 ·refine C.stuck (λd q z e1=>?_);conv=>whnf
  rw[O4 (.inr g2)];exact⟨B,q,z⟩
 rw[uf (by rw[g2];simp;omega)];refine eu [0,1,4] [] (λs:List bL × Heap × List Nat=>XM h0 s.2.1 o [.slice E u.aq.length A,.slice X u.methods.length R] u {M with au:=s.1} w p s.2.2/\Ev h s.2.1 (o::B) (o::s.2.2)/\bU u n {M with au:=s.1}=bU u n M/\s.1.length<=1000/\∀ g∈s.1,0<=g.aC/\g.aC < u.methods.length) (λs=>s.1.length)
  (λs=>([.v (.pointer (some ⟨o,0,none⟩)),.v (.int .i64 n),.v (.int .i64 (aK M.objs n).cls)],[],s.2.1))
  (M.au,h,B) ⟨C,Ev.refl _ _,rfl,hl,FH⟩ rfl ?_
 rintro⟨fs,d,B1⟩ ⟨q,z,v,we,pH⟩;simp only at q z v we pH ⊢;conv=>whnf
 obtain⟨_,_,_,⟨pf,cf,L⟩,_,p',Wz,q',d',he,TV,rm',_,FN,T6⟩:=q.jl;simp only[List.cons.injEq,Value.slice.injEq,true_and,and_true]at he;obtain⟨⟨rfl,rfl⟩,rfl,rfl⟩:=he;replace L:rd d o 3=some (.slice pf fs.length cf):=L
 refine ld L ?_;conv=>whnf
 apply aD<;>intro g0;all_goals conv=>whnf
 ·obtain⟨b,g,rfl⟩:∃ b gl,fs=b++[gl]:=by
   rcases List.eq_nil_or_concat fs with rfl|⟨b,gl,rfl⟩
   ·simp at g0
   exact⟨b,gl,Z⟩
  have hg:=pH g Z;have hlen:(b++[g]).length=b.length+1:=by simp
  have O5:XS h0 d o [.slice E u.aq.length A,.slice X u.methods.length R] u ⟨M.objs,b,g,M.said,M.steps,M.fin,M.out,w,p⟩ B1:=q;obtain⟨y,ht⟩:=O5.tp;have Bz:b.length<=1000:=by omega
  have oK:=qK O5 ht Bz;simp only at oK;obtain⟨t,qq,r,v1,v2,Q,Bs,T,hq,o1,o2,nd,DJ,pV,ne,ju⟩:=O5.lens ht;simp only at T hq o1 o2 ju;rw[mB]at v;have s0:rd d y (b.length*4)=some (.int .i64 g.aC):=bA T (i:=0) O rfl;have s1:rd d y (b.length*4+1)=some (.int .i64 g.pc):=bA T (i:=1) O rfl;have hi:g.aC.toNat < u.methods.length:=by omega
  have aa:=T6.get hi;obtain⟨bb,oo,To,vS,e1,e2⟩:=aa;have CP:aY u g.aC=u.methods[g.aC.toNat]:=fm hi O;have O6:=I1 _ (fB hg);obtain⟨p1,c1,p2,c2,p3,c3,p4,c4,e3,k1,k2,k3,k4,k5,k6,k7,k8,d1,d2,d3,d4⟩:=e2.form;subst e3;have s2:rd d bb (oo+g.aC.toNat*8+7)=some (.slice p4 (aY u g.aC).catches.length c4):=by rw[CP];exact aM e1 (i:=7) rfl
  have L4:Row 4 y9 d (.slice p4 (aY u g.aC).catches.length c4) (aY u g.aC).catches:=by rw[CP];exact k8
  have d4':(aY u g.aC).catches.length<=140737488351232:=by rw[CP];exact d4
  refine ax oK ?_;conv=>whnf
  repeat' ((first|refine ld rm' ?_|refine ld s0 ?_|refine aP vS ?_|refine ld s2 ?_|refine ay ?_|refine av ?_|refine ptr ?_)<;>conv=>whnf)
  refine eu [0,1,4,5,6,7] [] (λi:Nat=>i<=(aY u g.aC).catches.length/\∀ j (J:j < (aY u g.aC).catches.length),j < i->¬(((aY u g.aC).catches[j].lo<=g.pc/\g.pc < (aY u g.aC).catches[j].hi)/\up u.aq (aK M.objs n).cls (aY u g.aC).catches[j].cls=true)) (λi=>(aY u g.aC).catches.length-i)
   (λi=>([.v (.pointer (some ⟨o,0,none⟩)),.v (.int .i64 n),.v (.int .i64 (aK M.objs n).cls),.v (.pointer (some ⟨y,b.length*4,none⟩)),.v (.slice p4 (aY u g.aC).catches.length c4),.v (.int .i64 i)],[],d)) 0 ⟨O,λ_ _ a=>O⟩ rfl ?_
  rintro i ⟨hi4,Kx⟩;conv=>whnf
  apply aD<;>intro g5;all_goals conv=>whnf
  ·have lu:i < (aY u g.aC).catches.length:=by omega
   have f:=L4.get lu;obtain⟨bc,oc,Tq,FO,f1,f2,f3⟩:=f;subst f2;have Wt:=O6 _ (List.getElem_mem lu);have c0:=aM f1 (i:=0) rfl;have Oy:=aM f1 (i:=1) rfl;have Oz:=aM f1 (i:=2) rfl;have LO:=aM f1 (i:=3) rfl;have CT:=pE E u.aq.length A u.aq (aK M.objs n).cls (aY u g.aC).catches[i].cls d FN ok O hc.2 Wt.2;have go:¬(((aY u g.aC).catches[i].lo<=g.pc/\g.pc < (aY u g.aC).catches[i].hi)/\up u.aq (aK M.objs n).cls (aY u g.aC).catches[i].cls=true)->∀ j (J:j < (aY u g.aC).catches.length),j < i+1->¬(((aY u g.aC).catches[j].lo<=g.pc/\g.pc < (aY u g.aC).catches[j].hi)/\up u.aq (aK M.objs n).cls (aY u g.aC).catches[j].cls=true):=by
    intro a j J Fm;rcases Nat.lt_succ_iff_lt_or_eq.1 Fm with IK|rfl
    ·exact Kx j J IK
    exact a
   repeat' ((first|refine ld s1 ?_|refine aP FO ?_|refine ld c0 ?_|refine ld Oy ?_|refine aO (de _ _ _ _) ?_|refine ay ?_|refine av ?_|refine ptr ?_)<;>conv=>whnf)
   apply aD<;>intro g6;all_goals conv=>whnf
   ·repeat' ((first|refine ld TV ?_|refine aP FO ?_|refine ld LO ?_|refine aO CT ?_|refine ay ?_|refine av ?_|refine ptr ?_)<;>conv=>whnf)
    apply dM<;>intro S;all_goals conv=>whnf
    ·have L5:jk u (aK M.objs n).cls g.pc (aY u g.aC).catches=some (aY u g.aC).catches[i]:=by
      rw[jO _ i Kx,List.drop_eq_getElem_cons lu,jk,if_pos ⟨O,S⟩]
     rw[L5]at v;simp only at v;repeat' ((first|refine aP FO ?_|refine ld Oz ?_|refine ay ?_|refine av ?_|refine ptr ?_)<;>conv=>whnf)
     refine jd T (i:=1) [.int .i64 g.aC,.int .i64 (aY u g.aC).catches[i].to,v1,v2] O Z rfl (λh2 D F=>?_);conv=>whnf
     refine ax (jU _ _) ?_;conv=>whnf
     refine dn [.bool true,.int .i64 n] rfl (λe h3 I tB l3 FK=>?_);conv=>whnf
     have vW:d e=none:=by
      rw[D]at I;by_cases HV:e=y
      ·subst HV;simp[Heap.set]at I
      simpa [Heap.set,HV]using I
     have L6:e≠y:=by rintro rfl;rw[F]at I;cases I
     refine jd (l3 _ _ F) (i:=3) [.int .i64 g.aC,.int .i64 (aY u g.aC).catches[i].to,v1,.slice (some ⟨e,0,none⟩) 1 1] O Z rfl (λh4 Ky L7=>?_);have zu:∀ x,x≠y->x≠e->h4 x=d x:=by
      intro x K n2;rw[Ky,tB,D];simp[Heap.set,K,n2]
     have Tr:h4 e=some (.cells [Value.bool true,.int .i64 n].toArray 31 (0,0)):=by
      rw[Ky];simp only[Heap.set,L6,if_false];exact FK
     have T7:∀ x∈Q,x≠y/\x≠e:=λx a=>⟨(pV x (by simp[a])).1,by rintro rfl;obtain⟨ab,W⟩:=o1.in x a;rw[vW]at W;cases W⟩
     have H6:=ju h4 {g with pc:=(aY u g.aC).catches[i].to,stack:=[⟨true,n⟩]} v1 (.slice (some ⟨e,0,none⟩) 1 1) Q [e] L7
      (λx a V=>by
       have K:x≠y:=λhy=>a (by simp[hy]);have n2:x≠e:=by rintro rfl;exact V vW
       exact zu x K n2)
      (o1.aJ λx a ab W=>by rw[zu x (T7 x a).1 (T7 x a).2];exact W)
      (gz (t:=31) (by simp[bM]) rfl (by rw[Tr];rfl))
      (λx a=>by
       rcases List.mem_append.1 a with a|a
       ·exact .inl (by simp[a])
       rw[List.mem_singleton.1 a];exact .inr vW)
      (by
       have K:Nd Q:=nd.less λY=>by simp only[List.count_append];omega
       intro Y;have:=K Y;simp only[List.count_append,List.count_cons,List.count_nil];by_cases ha:e=Y
       ·subst ha;have:Q.count e=0:=List.count_eq_zero.2 λa=>(T7 e a).2 rfl;simp[this]
       simp[ha];exact this)
     conv=>whnf
     rw[<-v];exact XE.trans z H6.Mq
    refine av ?_;conv=>whnf
    refine cT (i+1) ⟨O,go (λa=>by rw[a.2]at S;cases S)⟩ O rfl
   refine av ?_;conv=>whnf
   refine cT (i+1) ⟨O,go (λa=>g6 ⟨a.1.1,O⟩)⟩ O rfl
  have L5:jk u (aK M.objs n).cls g.pc (aY u g.aC).catches=none:=by
   rw[jO _ (aY u g.aC).catches.length (λj J _=>Kx j J O),List.drop_length];rfl
  rw[L5]at v;simp only at v;obtain⟨t',L8,c',N,P,FP,ur,B2,H,G⟩:=q.ma.IG (fs:=b) (f:=g) rfl;have IJ:rd d o 3=some (.slice L8 (b.length+1) c'):=bA FP (i:=1) rfl rfl;rw[L]at IJ;simp only[Option.some.injEq,Value.slice.injEq]at IJ;obtain⟨rfl,_,rfl⟩:=IJ;repeat' ((first|refine ld L ?_|refine ay ?_|refine av ?_|refine ptr ?_)<;>conv=>whnf)
  have FI:(((b++[g]).length:Int)-1).toNat=b.length:=by omega
  refine jd FP (i:=1) (aE N (.slice pf (((b++[g]).length:Int)-1).toNat cf) P {M with au:=b++[g]}) rfl (by simp[aE]) rfl (λh2 D F=>?_);rw[FI]at D F;rw[<-D]at H G;conv=>whnf
  refine cT (b,h2,B2) ⟨⟨H,C.un⟩,z.trans G,v,by simp at we ⊢;omega,λx a=>pH x (by simp[a])⟩ Z rfl
 have FJ:fs=[]:=List.eq_nil_of_length_eq_zero (show fs.length=0 by simpa using g0);subst FJ;obtain⟨t',N,Kw,P,HT,_,_,_,hint⟩:=q.ma.ints;refine jd HT (i:=4) (aE N Kw P {M with au:=[],fin:=2}) rfl (by simp[aE]) rfl (λh2 D F=>?_);conv=>whnf
 refine ax (jU _ _) ?_;conv=>whnf
 refine vI F ([.slice E u.aq.length A,.slice X u.methods.length R]++aE N Kw P {M with au:=[],fin:=2,out:=⟨true,n⟩}++[.bool w,.int .i64 p]) (by simp[aE]) rfl (λh3 tB FK=>?_);obtain⟨H,G⟩:=hint {M with au:=[],fin:=2,out:=⟨true,n⟩} rfl rfl rfl;have zq:h3=d.set o (.cells (([.slice E u.aq.length A,.slice X u.methods.length R]++aE N Kw P {M with au:=[],fin:=2,out:=⟨true,n⟩}++[.bool w,.int .i64 p]:List Value)).toArray t' (0,0)):=by
  rw[tB,D,set_set]
 rw[<-zq]at H G;conv=>whnf
 rw[<-v];exact⟨B1,⟨H,C.un⟩,z.trans G⟩
theorem dL {sz:Nat} {h:Heap} {b:Nat} {t:TypeId} (a:h b=some (.cells #[] t (0,0))):bW sz h (.slice (some ⟨b,0,none⟩) 0 0) [] [b]:=⟨Z,.inr ⟨b,0,[],t,rfl,Z,by simpa using a,Z,rfl⟩⟩
theorem BP (R:List Value) (u:aS) (k:Int) (a:List Vl) (v:Value) (h:Heap) (hu:cZ h R u) (hk:0<=k/\k < u.methods.length) (H:kY h v a) (hl:a.length<=1000) (vT:(aY u k).locals<=1000) :
  bI prog 90 [.agg ⟨R⟩,.int .i64 k,v] h λf h'=>h.le h'/\∃ S T B1 d,f=.agg #[.int .i64 k,.int .i64 0,S,T]/\bR h' S (eY u k a).locals B1/\bR h' T [] d/\Nd (B1++d)/\∀ b∈B1++d,h b=none:=by
 obtain⟨ae,cc,af,aa,rfl,hcs,kS,ko,hl2⟩:=hu.form;have I:k.toNat < u.methods.length:=by omega
 have ab:=kS.get I;obtain⟨X,oo,ms,vS,e1,e2⟩:=ab;have CP:aY u k=u.methods[k.toNat]:=fm I O;obtain⟨p1,c1,p2,c2,p3,c3,p4,c4,e3,_⟩:=e2.form;subst e3;have r4:rd h X (oo+k.toNat*8+4)=some (.int .i64 (aY u k).locals):=by rw[CP];exact aM e1 (i:=4) rfl
 have QN:=H;obtain⟨hg1,QB,pg,cg,rfl,FK,Kx⟩:=H;have hlen:=dP bM a;refine bT aB func90 ZA U rfl ?_;conv=>whnf
 refine dn [] rfl (λW h1 vW W1 M g1=>?_);conv=>whnf
 refine(QN.le M).IB ?_;conv=>whnf
 refine cX (h0:=h) (xs:=[]) (ys:=a.map bM) (B:=[W]) (dL g1) (by simpa using vW) M rfl rfl (by simp[bM]) (gJ a) rfl (by simp;omega) (by simp;omega) ?_;intro f h2 d L k2 k3 k4 k5;have y:bR h2 f a d:=by simpa using k2
 have hf:=y.form;obtain⟨Q,E,rfl,_⟩:=hf;conv=>whnf
 refine dn [] rfl (λc F w W2 N g3=>?_);have T8:h c=none:=by
  cases hh:h c with
  | none=>rfl
  | some P=>rw[L c P hh]at w;cases w
 have hB2:c ∉ d:=λx=>by
  obtain⟨P,K⟩:=y.in c x;rw[w]at K;cases K
 have J:(a.map bM).length=a.length+0:=by simp
 have T9:bR F (.slice Q (a.length+0) E) (a++List.replicate 0 cE) d:=by
  rw[<-J];simpa using y.aJ (cD.of_le N _)
 rw[J];conv=>whnf
 refine eu [1,3,6,7] [3,6,7] (λs:Nat × Heap × Option Addr × Nat × List Nat=>(s.1=0\/(a.length:Int)+s.1<=(aY u k).locals)/\h.le s.2.1/\bR s.2.1 (.slice s.2.2.1 (a.length+s.1) s.2.2.2.1) (a++List.replicate s.1 cE) s.2.2.2.2/\(∀ b∈s.2.2.2.2,h b=none)/\c ∉ s.2.2.2.2/\s.2.1 c=some (.cells #[] 31 (0,0))) (λs=>(aY u k).locals.toNat-(a.length+s.1))
  (λs=>([.v (.int .i64 k),.l 3 0,.l 6 0,.l 7 0],[some [.slice ae u.aq.length cc,.slice af u.methods.length aa],some [.int .i64 0,.int .i64 0,.slice none 0 0,.slice none 0 0],some [.int .i64 k,.int .i64 0,.slice s.2.2.1 (a.length+s.1) s.2.2.2.1,.slice (some ⟨c,0,none⟩) 0 0]],s.2.1))
  (0,F,Q,E,d) ⟨.inl rfl,Heap.le_trans L N,T9,k3,hB2,g3⟩ rfl ?_
 rintro⟨j,h5,pp,ag,V⟩ ⟨hj,o,q,z,p,e⟩;simp only at hj o q z p e ⊢;have r4':=aW o r4;conv=>whnf
 repeat' ((first|refine aP vS ?_|refine ld r4' ?_|refine ay ?_|refine av ?_|refine ptr ?_)<;>conv=>whnf)
 apply aD<;>intro ad;all_goals conv=>whnf
 ·repeat' ((first|exact trivial|refine aO (lC _ _) ?_|apply And.intro)<;>conv=>whnf)
  all_goals
   have Cy:((a++List.replicate j cE).map bM).length=a.length+j:=by simp
   refine cX (h0:=h) (ys:=[bM cE]) q z o rfl rfl (by simp[bM]) rfl rfl (by simp;omega) (by simp;omega) ?_;intro f t C q1 q2 q3 q4 q5;have A:bR t f (a++List.replicate (j+1) cE) C:=by
    unfold bR;rw[List.replicate_succ',<-List.append_assoc,List.map_append];exact q2
   obtain⟨p',Y,rfl,_⟩:=A.form;have xQ:((a++List.replicate (j+1) cE).map bM).length=a.length+(j+1):=by simp
   rw[xQ]at A ⊢;conv=>whnf
   refine cT (j+1,t,p',Y,C) ⟨.inr O,q1,A,q3,λx=>?_,?_⟩ (by simp only;omega) rfl
   ·rcases q5 c x with m|m
    ·exact p m
    rw[e]at m;cases m
   show t c=_;rw[q4 c p (by rw[e];simp)];exact e
 have hje:j=(aY u k).locals.toNat-a.length:=by omega
 refine⟨o,_,_,V,[c],rfl,?_,dL e,?_,?_⟩
 ·unfold eY;rw[<-hje];exact q
 ·intro D;have:=q.nd D;simp only[List.count_append,List.count_cons,List.count_nil];by_cases G:c=D
  ·subst G;simp[List.count_eq_zero.2 p]
  simp[G];exact this
 intro b g;simp only[List.mem_append,List.mem_singleton]at g;rcases g with g|rfl
 ·exact z b g
 exact T8
def cr (u:aS) (x:dc):Int :=
 if x.kind=20 then (aY u x.a).args.length
 else if x.kind=21 then (if 0<=find u x.a x.b then (aY u (find u x.a x.b)).args.length+1 else -1)
 else -1
theorem s5 (A:List Value) (u:aS) (c a b:Int) (h:Heap) (y:cZ h A u) (ok:cn u.aq) (F:c=20->0<=a/\a < u.methods.length) (G:c=21->0<=a/\a < u.aq.length) :
  Pure prog 140 [.agg ⟨A⟩,.agg #[.int .i64 c,.int .i64 a,.int .i64 b]] h (.int .i64 (cr u ⟨c,a,b⟩)):=by
 have z:=y;obtain⟨aa,R,M,S,rfl,T,I,X,Y⟩:=y.form;have args:∀ k:Int,0<=k->k < u.methods.length->∃ d e t m,M=some ⟨d,e,none⟩/\rd h d (e+k.toNat*8+2)=some (.slice t (aY u k).args.length m)/\(aY u k).args.length<=140737488351232:=by
  intro k V W;have w:k.toNat < u.methods.length:=by omega
  obtain⟨d,e,ms,J,C,D⟩:=I.get w;have x:aY u k=u.methods[k.toNat]:=fm w O;obtain⟨L,B,p2,N,p3,P,p4,Q,E,k1,k2,k3,k4,K,k6,k7,k8,d1,d2,d3,d4⟩:=D.form;subst E;exact⟨d,e,L,B,J,by rw[x];exact aM C (i:=2) rfl,by rw[x];exact K.1⟩
 by_cases o:c=20
 ·subst o;have g:=F rfl;obtain⟨d,e,t,m,s,v,_⟩:=args a g.1 g.2;refine fD aB func140 E8 CF rfl ?_;conv=>whnf
  repeat' ((first|refine aP s ?_|refine ld v ?_|refine ay ?_|refine av ?_|refine ptr ?_)<;>conv=>whnf)
  exact⟨rfl,rfl⟩
 by_cases p:c=21
 ·subst p;have g:=G rfl;have H:=gK u a b;have j:cr u ⟨21,a,b⟩=if 0<=find u a b then ((aY u (find u a b)).args.length:Int)+1 else -1:=rfl
  by_cases f:0<=find u a b
  ·obtain⟨d,e,t,m,s,v,hle⟩:=args (find u a b) f H.2;rw[j,if_pos f];have q:=qp _ u a b h z ok O g.2;generalize find u a b=k at *;refine fD aB func140 E8 CF rfl ?_;conv=>whnf
   refine ax q ?_;conv=>whnf
   refine eR f ?_;conv=>whnf
   repeat' ((first|refine aP s ?_|refine ld v ?_|refine ay ?_|refine av ?_|refine ptr ?_)<;>conv=>whnf)
   exact⟨rfl,rfl⟩
  rw[j,if_neg f];have q:=qp _ u a b h z ok O g.2;refine fD aB func140 E8 CF rfl ?_;conv=>whnf
  refine ax q ?_;conv=>whnf
  refine cx f ?_;conv=>whnf
  exact⟨rfl,rfl⟩
 have j:cr u ⟨c,a,b⟩ = -1:=by simp[cr,o,p]
 rw[j];refine fD aB func140 E8 CF rfl ?_;conv=>whnf
 refine cx o ?_;conv=>whnf
 refine cx p ?_;conv=>whnf
 exact⟨rfl,rfl⟩
theorem XS.rest {h0 h:Heap} {e:Nat} {q:List Value} {u:aS} {x:Sx} {B:List Nat} {d:Nat} (t:XS h0 h e q u x B) (C:Tp h e x.fs.length d) (Q:x.f.stack.length<=1000) {m:Nat} (N:m<=x.f.stack.length) :
  ∃ c b,rd h d (x.fs.length*4+3)=some (.slice c (x.f.stack.map bM).length b)/\x.f.stack.length<=b/\(∀ oa,(b≠m->oa=c.map λa=>a.add (m*2))->(b=m->oa=c)->kY h (.slice oa ((x.f.stack.map bM).length-m) (b-m)) (x.f.stack.drop m)) /\
   ∀ K:Heap->Prop,(∀ h',XR h0 h e q u B {x with f:={x.f with stack:=x.f.stack.take m} } h'->K h')->St h d (x.fs.length*4+3) [.slice c m b] K:=by
 obtain⟨S,R,r,I,c,b,j,w,P,g,L,G,H⟩:=t.cA C;have M:=dP bM x.f.stack;obtain⟨_,_,o,y⟩:=g.form;simp only[Value.slice.injEq]at o;obtain⟨_,_,rfl⟩:=o;refine⟨c,b,G,by simpa using y,λoa D E=>?_,λK A=>?_⟩
 ·have:=bW.rest (sz:=2) g (l:=m) (by simp;omega) (by simp;omega) D E;rw[sW]at this;exact this
 have F:bR h (.slice c m b) (x.f.stack.take m) j:=by
  have:=bW.first (l:=m) g (by simp;omega);rw[<-List.map_take]at this;exact this
 have p:=(H h _ j (x.f.stack.take m) x.f.pc (λ_ _ _=>rfl) F (λJ v=>.inl v)).2;refine jd w (i:=3) [.int .i64 x.f.aC,.int .i64 x.f.pc,I,.slice c m b] O Z rfl (λs z _=>?_);rw[<-z]at p;exact A s p
def iu (u:aS) (x:Sx) (i:dc):bH × Bool × Int :=
 if cr u i < 0\/(x.f.stack.length:Int) < cr u i then ({x with st:=true}:Sx).res
 else
  let a:=x.f.stack.drop (x.f.stack.length-(cr u i).toNat)
  let y:=if i.kind=21 then (if (a.getD 0 cE).ref=false then {x with st:=true}else bw u x (a.getD 0 cE).n i.a)else x
  if i.kind=21/\y.bad then y.res
  else if x.fs.length+1=4 then (cz y 6).res
  else (⟨x.objs,x.fs++[{x.f with stack:=x.f.stack.take (x.f.stack.length-(cr u i).toNat)}]++[eY u (if i.kind=21 then find u (aK x.objs (a.getD 0 cE).n).cls i.b else i.a) a],x.said,x.steps,x.fin,x.out⟩,y.st,y.ft)
theorem XM.wC {h0 h:Heap} {d:Nat} {Q:List Value} {u:aS} {M:bH} {P:Bool} {F:Int} {B:List Nat} (e:XM h0 h d Q u M P F B) (J:M.au.length<=1000) :
  ∃ p g,rd h d 3=some (.slice p M.au.length g)/\∀(m:Heap),h.le m->∀ {bytes:Nat} {zero:List Value} {D:TypeId} {C:Nat} (a:bL) (c:List Nat) (y:List Value) (K:Value->Heap->Prop),mo m y a c->Nd c->(∀ b∈c,h b=none)->C=1->y.length=4->dD y=true->zero.length=4->bytes<=1000 ->
   (∀ o f q,(∀ w:Heap->Prop,(∀ s,XE h0 h d Q u B ({M with au:=M.au++[a]},P,F) s->w s)->St q d 3 [.slice o (M.au.length+1) f] w)->K (.slice o (M.au.length+1) f) q)->App bytes 4 zero D m p M.au.length g C y K:=by
 obtain⟨aa,p,g,vo,vs,H,_⟩:=e.ma.wC J;have v:=e.CX;refine⟨p,g,bA H (i:=1) (by rw[v]) rfl,λm A=>?_⟩;intro bytes zero D C a c y K X Y z k4 k5 k6 k7 k8 k9;have T:=e.ma.in;have hle:=e.ma.le;obtain⟨t',L8,TM,Nz,Fl,I,grow⟩:=(e.mono A).1.ma.wC J;have j:rd m d 3=some (.slice p M.au.length g):=aW A (bA H (i:=1) (by rw[v]) rfl);rw[bA I (i:=1) (by rw[v]) rfl]at j;simp only[Option.some.injEq,Value.slice.injEq,true_and]at j;obtain⟨rfl,rfl⟩:=j;refine grow a c y K X Y (λb t=>⟨λW=>?_,?_⟩) k4 k5 k6 k7 k8 (λo f q j e2 e3 x=>k9 o f q (λw V=>?_))
 ·obtain⟨N,L⟩:=T b W;rw[z b t]at L;cases L
 ·cases x:h0 b with
  | none=>rfl
  | some N=>have:=z b t;rw[hle b N x]at this;cases this
 obtain⟨R,G,E⟩:=x;refine jd (j.trans I) (i:=1) (aE Nz (.slice o (M.au.length+1) f) Fl M) (by rw[v]) (by simp[aE]) rfl (λs S _=>?_);rw[<-S]at G E;exact V s ⟨R,⟨G,e.un⟩,(Ev.of_le A ((d::B)++c) (λb t=>(List.mem_append.1 t).imp id (z b))).trans E⟩
theorem jX {K:Value->Heap->Prop} {E:List PanicEntry->Heap->Prop} (i:List Value) (u:aS) (k:Int) (c:List Vl) (v:Value) (h:Heap) (B:cZ h i u) (y:0<=k/\k < u.methods.length) (w:kY h v c) (z:c.length<=1000) (A:(aY u k).locals<=1000)
  (t:∀ h' f m d g o e B1 a,h.le h'->bR h' (.slice f m d) (eY u k c).locals B1->bR h' (.slice g o e) [] a->Nd (B1++a)->(∀ b∈B1++a,h b=none)->K (.agg #[.int .i64 k,.int .i64 0,.slice f m d,.slice g o e]) h') :
  fE prog 90 [.agg ⟨i⟩,.int .i64 k,v] h K E:=cO (BP i u k c v h B y w z A) (λC h' x=>by
 obtain⟨j,D,F,B1,a,rfl,p,q,nd,s⟩:=x;obtain⟨f,d,rfl,_⟩:=p.form;obtain⟨g,e,rfl,_⟩:=q.form;exact⟨j,t h' _ _ _ _ _ _ B1 a j p q nd s⟩)
theorem zJ {u:aS} {x:Sx} {a b:Int} (c:¬(cr u ⟨20,a,b⟩ < 0\/(x.f.stack.length:Int) < cr u ⟨20,a,b⟩)):iu u x ⟨20,a,b⟩ =
  if x.fs.length+1=4 then (cz x 6).res else (⟨x.objs,x.fs++[{x.f with stack:=x.f.stack.take (x.f.stack.length-(cr u ⟨20,a,b⟩).toNat)}]++[eY u a (x.f.stack.drop (x.f.stack.length-(cr u ⟨20,a,b⟩).toNat))],x.said,x.steps,x.fin,x.out⟩,x.st,x.ft):=by
 unfold iu;rw[if_neg c];simp
theorem zK {u:aS} {x:Sx} {a b:Int} (e:¬(cr u ⟨21,a,b⟩ < 0\/(x.f.stack.length:Int) < cr u ⟨21,a,b⟩)) {c:Vl} (f:(x.f.stack.drop (x.f.stack.length-(cr u ⟨21,a,b⟩).toNat)).getD 0 cE=c):iu u x ⟨21,a,b⟩ =
  if c.ref=false then ({x with st:=true}:Sx).res else if (bw u x c.n a).bad then (bw u x c.n a).res else if x.fs.length+1=4 then (cz (bw u x c.n a) 6).res
  else (⟨x.objs,x.fs++[{x.f with stack:=x.f.stack.take (x.f.stack.length-(cr u ⟨21,a,b⟩).toNat)}]++[eY u (find u (aK x.objs c.n).cls b) (x.f.stack.drop (x.f.stack.length-(cr u ⟨21,a,b⟩).toNat))],x.said,x.steps,x.fin,x.out⟩,(bw u x c.n a).st,(bw u x c.n a).ft):=by
 unfold iu;rw[if_neg e];simp only[f];by_cases d:c.ref=false
 ·simp[d,Sx.bad]
 simp[d]
theorem D2 {h0 h:Heap} {j:Nat} {us:List Value} {u:aS} {x:Sx} {B:List Nat} (d:XS h0 h j us u x B) (i:jn u x) (hu:cC u) (a b:Int) (nu:x.st=false) (D1:x.ft=0)
  (H:0<=a/\a < u.methods.length) :
  bI prog 101 [.pointer (some ⟨j,0,none⟩),.agg #[.int .i64 20,.int .i64 a,.int .i64 b]] h λ_ h'=>XE h0 h j us u B (iu u x ⟨20,a,b⟩) h':=by
 have ok:=hu.1;obtain⟨bf,y⟩:=d.tp;have oK:=qK d y i.x8;have W3:=i.gh.2.2.2.1;have KA:=i.nf;obtain⟨r9,CN,_,_,_,P,A,R,C,rfl,r0,rm,S,hcs,kS⟩:=d.jl;have I:=s5 [.slice P u.aq.length A,.slice R u.methods.length C] u 20 a b h (d.un.le d.ma.le) ok (by exact λ_=>H) Z;have hlen:=dP bM x.f.stack;have mW:=d.ma.in;by_cases M:cr u ⟨20,a,b⟩ < 0\/(x.f.stack.length:Int) < cr u ⟨20,a,b⟩
 ·have g:iu u x ⟨20,a,b⟩=({x with st:=true}:Sx).res:=if_pos M;rw[g];generalize cr u ⟨20,a,b⟩=n at I M;obtain⟨Q,t,s,_⟩:=d.rest y i.tJ (m:=0) O;refine bT aB func101 E6 CD rfl ?_;conv=>whnf
  refine ax oK ?_;conv=>whnf
  repeat' ((first|refine dh S ?_|refine aO I ?_|refine ay ?_|refine av ?_|refine ptr ?_)<;>conv=>whnf)
  apply aD<;>intro aa;all_goals conv=>whnf
  ·refine d.stuck (λe F D e1=>?_);conv=>whnf
   exact⟨B,F,D⟩
  refine ld s ?_;conv=>whnf
  refine bZ ?_;conv=>whnf
  refine d.stuck (λe F D e1=>?_);conv=>whnf
  exact⟨B,F,D⟩
 have g:=zJ M;generalize cr u ⟨20,a,b⟩=n at *;have WZ:0<=n/\n<=x.f.stack.length:=by omega
 obtain⟨m,hm⟩:∃ m,m=x.f.stack.length-n.toNat:=⟨_,rfl⟩
 rw[<-hm]at g;generalize iu u x ⟨20,a,b⟩=res at g ⊢;obtain⟨Q,t,s,H7,Gl,_⟩:=d.rest y i.tJ (m:=m) O;have J:(((x.f.stack.map bM).length:Int)-n).toNat=m:=by omega
 have Bz:(x.f.stack.drop m).length=n.toNat:=by simp;omega
 have hz:∀(e:Heap) (f:Option Addr),h.le e->(t≠(((x.f.stack.map bM).length:Int)-n).toNat->f=Q.map λa=>a.add ((((x.f.stack.map bM).length:Int)-n).toNat*2))->(t=(((x.f.stack.map bM).length:Int)-n).toNat->f=Q) ->
   kY e (.slice f ((x.f.stack.map bM).length-(((x.f.stack.map bM).length:Int)-n).toNat) (t-m)) (x.f.stack.drop m):=by
  rw[J];exact λe f q p z=>(Gl f p z).le q
 refine bT aB func101 E6 CD rfl ?_;conv=>whnf
 refine ax oK ?_;conv=>whnf
 repeat' ((first|refine dh S ?_|refine aO I ?_|refine ay ?_|refine av ?_|refine ptr ?_)<;>conv=>whnf)
 refine bD ?_;conv=>whnf
 refine ld s ?_;conv=>whnf
 refine bD ?_;conv=>whnf
 have hsz:(List.map bM x.f.stack).length-(((List.map bM x.f.stack).length:Int)-n).toNat=((x.f.stack.drop m).map bM).length:=by simp;omega
 repeat' ((first|exact trivial|apply And.intro|refine ld s ?_|refine ld (aW q s) ?_|refine ay ?_|refine av ?_|refine dn [] rfl (λb1 e vW W1 q g1=>?_)|refine Go.Proofs.sub (λf q1 q2=>?_))<;>conv=>whnf)
 all_goals
  refine jM.IB (hz e f q q1 q2) ?_;conv=>whnf
  refine cX (h0:=h) (xs:=[]) (ys:=(x.f.stack.drop m).map bM) (B:=[b1]) (dL g1) (by simpa using vW) q rfl hsz (λaf hy=>by obtain⟨ae,_,rfl⟩:=List.mem_map.1 hy;rfl) (gJ _) rfl (by simp;omega) (by simp;omega) ?_;intro v' E W p z k3 k4 k5;have Mt:bR E v' (x.f.stack.drop m) W:=by rw[List.nil_append]at z;exact z
  have hf:=Mt.form;obtain⟨pg,cg,rfl,_⟩:=hf;conv=>whnf
  have N:=d.mono p;have AJ:XS h0 E j [.slice P u.aq.length A,.slice R u.methods.length C] u x B:=N.1;have KJ:Tp E j x.fs.length bf:=by obtain⟨c0,q0⟩:=y;exact⟨c0,aW p q0⟩
  have Ua:=bG p S;refine KJ.elim λcf O7=>?_;refine ld O7 ?_;conv=>whnf
  apply aD<;>intro gf;all_goals conv=>whnf
  ·refine aG (iH AJ 6) (λad v w=>?_);conv=>whnf
   rw[g,if_pos O];exact XE.trans N.2.1 w.Mq
  refine(AJ.rest KJ i.tJ (m:=m) O).elim λp3 c=>c.elim λc3 c=>?_;have w3:=c.1;have wc:=c.2.1;have O8:=c.2.2.2;rw[<-J]at O8;repeat' ((first|exact trivial|apply And.intro|refine ld w3 ?_|refine ay ?_|refine av ?_)<;>conv=>whnf)
  all_goals
   refine O8 _ (λv w=>?_);rw[J]at w;refine w.elim λB3 L=>?_;have G:=L.1;have vV:=N.2.1.trans L.2.1;refine(XM.wC G (show(x.fs++[_]).length<=1000 by simp;omega)).elim λpf K=>K.elim λTO K=>K.elim λO9 grow=>?_;have Mu:=G.jl.2.2.2.2.2;refine Mu.elim λpa c=>c.elim λca c=>c.elim λqa c=>c.elim λda c=>?_;have o:=c.1;simp only[List.cons.injEq,Value.slice.injEq,true_and,and_true]at o;have Pa:=o.1.1;have Pb:=o.1.2;have Pc:=o.2.1;have Pd:=o.2.2;subst Pa Pb Pc Pd;have Gm:=c.2.2.2.1;have Ub:bR v (.slice pg ((x.f.stack.drop m).map bM).length cg) (x.f.stack.drop m) W:=Mt.aJ λb hb ab ho=>by
    rw[L.2.1.qv b (by rw[ho];simp) (λhx=>?_)]
    ·exact ho
    obtain⟨o2,W4⟩:=mW b hx;rw[k3 b hb]at W4;cases W4
   have Uc:∀ {Y:Value->Heap->Prop} {X:List PanicEntry->Heap->Prop},_->fE prog 90 [.agg #[.slice P u.aq.length A,.slice R u.methods.length C],.int .i64 (a),.slice pg ((x.f.stack.drop m).map bM).length cg] v Y X:=λ{Y X} hK=>jX _ u (a) (x.f.stack.drop m) _ v (d.un.le G.ma.le) H (Ub.read (by simp;omega)) O (by have:=(hu.aY H).1.2.2.2.2.1;omega) hK;conv=>whnf
   repeat' ((first|exact trivial|apply And.intro|refine dh Gm ?_|refine ld O9 ?_|refine ld (aW l4 O9) ?_|refine Uc (λh4 p5 n5 c5 p6 n6 c6 T V l4 o5 o6 Ud f56=>?_))<;>conv=>whnf)
   all_goals
    refine grow h4 l4 (eY u (a) (x.f.stack.drop m)) (T++V) _ _ ⟨_,_,T,V,rfl,o5,o6,rfl⟩ Ud f56 rfl rfl rfl rfl Z (λp' c' h5 Mv=>?_);conv=>whnf
    refine Mv _ (λh6 Ue=>?_);conv=>whnf
    rw[g,if_neg O];exact XE.trans vV Ue
theorem D3 {h0 h:Heap} {y:Nat} {us:List Value} {u:aS} {x:Sx} {B:List Nat} (f:XS h0 h y us u x B) (p:jn u x) (hu:cC u) (a b:Int) (nu:x.st=false) (D1:x.ft=0)
  (ha:0<=a/\a < u.aq.length) (hsend:0<=find u a b->∀ c:Int,c < u.aq.length->up u.aq c a=true->0<=find u c b) :
  bI prog 101 [.pointer (some ⟨y,0,none⟩),.agg #[.int .i64 21,.int .i64 a,.int .i64 b]] h λ_ h'=>XE h0 h y us u B (iu u x ⟨21,a,b⟩) h':=by
 have ok:=hu.1;obtain⟨bf,ht⟩:=f.tp;have oK:=qK f ht p.x8;have W3:=p.gh.2.2.2.1;have KA:=p.nf;obtain⟨P,M,_,_,_,aa,S,ab,T,rfl,r0,rm,Uf,hcs,kS⟩:=f.jl;have Ug:=s5 [.slice aa u.aq.length S,.slice ab u.methods.length T] u 21 a b h (f.un.le f.ma.le) ok Z (by exact λ_=>ha);have hlen:=dP bM x.f.stack;have mW:=f.ma.in;by_cases E:cr u ⟨21,a,b⟩ < 0\/(x.f.stack.length:Int) < cr u ⟨21,a,b⟩
 ·have q:iu u x ⟨21,a,b⟩=({x with st:=true}:Sx).res:=if_pos E;rw[q];generalize cr u ⟨21,a,b⟩=n at Ug E;obtain⟨p2,R,N,_⟩:=f.rest ht p.tJ (m:=0) O;refine bT aB func101 E6 CD rfl ?_;conv=>whnf
  refine ax oK ?_;conv=>whnf
  repeat' ((first|refine dh Uf ?_|refine aO Ug ?_|refine ay ?_|refine av ?_|refine ptr ?_)<;>conv=>whnf)
  apply aD<;>intro W;all_goals conv=>whnf
  ·refine f.stuck (λz IY NH e1=>?_);conv=>whnf
   exact⟨B,IY,NH⟩
  refine ld N ?_;conv=>whnf
  refine bZ ?_;conv=>whnf
  refine f.stuck (λz IY NH e1=>?_);conv=>whnf
  exact⟨B,IY,NH⟩
 have Mw:cr u ⟨21,a,b⟩=if 0<=find u a b then ((aY u (find u a b)).args.length:Int)+1 else -1:=rfl
 have W5:0<=find u a b:=by
  rw[Mw]at E;split at E
  ·assumption
  simp at E
 have QG:1<=cr u ⟨21,a,b⟩:=by
  rw[Mw,if_pos W5];omega
 clear Mw;obtain⟨e,Uh⟩:∃ e,(x.f.stack.drop (x.f.stack.length-(cr u ⟨21,a,b⟩).toNat)).getD 0 cE=e:=⟨_,rfl⟩
 have q:=zK E Uh;generalize cr u ⟨21,a,b⟩=n at *;have WZ:0<=n/\n<=x.f.stack.length:=by omega
 obtain⟨m,hm⟩:∃ m,m=x.f.stack.length-n.toNat:=⟨_,rfl⟩
 rw[<-hm]at q Uh;generalize iu u x ⟨21,a,b⟩=res at q ⊢;obtain⟨p2,R,N,H7,Gl,_⟩:=f.rest ht p.tJ (m:=m) O;have O6:(((x.f.stack.map bM).length:Int)-n).toNat=m:=by omega
 have Bz:(x.f.stack.drop m).length=n.toNat:=by simp;omega
 have QN:0 < (x.f.stack.drop m).length:=by omega
 have NI:(x.f.stack.drop m)[0]=e:=by rw[<-Uh,ox QN]
 have Ui:e∈x.f.stack:=by
  rw[<-NI];exact List.mem_of_mem_drop (List.getElem_mem _)
 have Uj:=p.gh.2.2.2.2.2 e Ui;have TA:=p.len.2;have hz:∀(z:Heap) (A:Option Addr),h.le z->(R≠(((x.f.stack.map bM).length:Int)-n).toNat->A=p2.map λa=>a.add ((((x.f.stack.map bM).length:Int)-n).toNat*2))->(R=(((x.f.stack.map bM).length:Int)-n).toNat->A=p2) ->
   kY z (.slice A ((x.f.stack.map bM).length-(((x.f.stack.map bM).length:Int)-n).toNat) (R-m)) (x.f.stack.drop m):=by
  rw[O6];exact λz A L K k2=>(Gl A K k2).le L
 refine bT aB func101 E6 CD rfl ?_;conv=>whnf
 refine ax oK ?_;conv=>whnf
 repeat' ((first|refine dh Uf ?_|refine aO Ug ?_|refine ay ?_|refine av ?_|refine ptr ?_)<;>conv=>whnf)
 refine bD ?_;conv=>whnf
 refine ld N ?_;conv=>whnf
 refine bD ?_;conv=>whnf
 have hsz:(List.map bM x.f.stack).length-(((List.map bM x.f.stack).length:Int)-n).toNat=((x.f.stack.drop m).map bM).length:=by simp;omega
 repeat' ((first|exact trivial|apply And.intro|refine ld N ?_|refine ld (aW L N) ?_|refine ay ?_|refine av ?_|refine dn [] rfl (λb1 z vW W1 L g1=>?_)|refine Go.Proofs.sub (λA q1 q2=>?_))<;>conv=>whnf)
 all_goals
  refine jM.IB (hz z A L q1 q2) ?_;conv=>whnf
  refine cX (h0:=h) (xs:=[]) (ys:=(x.f.stack.drop m).map bM) (B:=[b1]) (dL g1) (by simpa using vW) L rfl hsz (λai J=>by obtain⟨ah,_,rfl⟩:=List.mem_map.1 J;rfl) (gJ _) rfl (by simp;omega) (by simp;omega) ?_;intro v' C Q K k2 k3 k4 k5;have Mt:bR C v' (x.f.stack.drop m) Q:=by rw[List.nil_append]at k2;exact k2
  have hf:=Mt.form;obtain⟨pg,cg,rfl,_⟩:=hf;conv=>whnf
  have OQ:=f.mono K;have AJ:XS h0 C y [.slice aa u.aq.length S,.slice ab u.methods.length T] u x B:=OQ.1;have KJ:Tp C y x.fs.length bf:=by obtain⟨c0,q0⟩:=ht;exact⟨c0,aW K q0⟩
  have Ua:=bG K Uf;refine(Mt.two QN).elim λbg W6=>?_;have hpg:=W6.1;subst hpg;have My:=W6.2.1;rw[NI]at My;have w0:=aM My (i:=0) rfl;have w1:=aM My (i:=1) rfl;have aaf:((x.f.stack.drop m).map bM).length=(x.f.stack.drop m).length:=by simp
  repeat' ((first|refine ld w0 ?_|refine ay ?_|refine av ?_|refine ptr ?_)<;>conv=>whnf)
  apply cq<;>intro X;all_goals conv=>whnf
  ·refine AJ.stuck (λF G vV e3=>?_);conv=>whnf
   rw[q,if_pos X];exact⟨B,G,OQ.2.1.trans vV⟩
  have QO:¬e.ref=false:=by rw[X];simp
  have Mz:=Uj.1 X;repeat' ((first|exact trivial|apply And.intro|refine ld w1 ?_|refine ay ?_|refine ptr ?_)<;>conv=>whnf)
  all_goals
   refine aG (qN AJ p ok e.n a Mz O) (λag Uk t=>?_);refine t.2.1.elim λbn hv=>hv.elim λon hv=>?_;subst hv;refine t.1.elim λUl Y=>?_;have g:=Y.1;have jV:=t.2.2;have V:=OQ.2.1.trans Y.2.1;have Pe:=Y.2.1;have rt3:=Y.2.2;by_cases s:(bw u x e.n a).bad
   ·have P:=g.jl.1;have M:=g.jl.2.1;conv=>whnf
    refine ld P ?_;conv=>whnf
    apply dM<;>intro W;all_goals conv=>whnf
    ·rw[q,if_neg QO,if_pos s];exact⟨Ul,g,V⟩
    refine ld M ?_;conv=>whnf
    refine eR (s.resolve_left (by rw[W];simp)) ?_;conv=>whnf
    rw[q,if_neg QO,if_pos s];exact⟨Ul,g,V⟩
   have j:=jV s;have KK:=j.1;have vJ:=j.2.1;have EP:=iT p s;refine j.2.2.elim λbo j=>j.elim λco j=>?_;have zl:=j.1;have hp:=j.2;simp only[Value.pointer.injEq,Option.some.injEq,Addr.mk.injEq,and_true]at hp;have yc:=hp.1;have BM:=hp.2;subst yc;subst BM;rw[vJ]at g s q;have rG:0<=(aK x.objs e.n).cls/\up u.aq (aK x.objs e.n).cls a=true:=by
    unfold eG at EP;simp at EP;exact EP.2 ha.1
   have hO:=p.vK _ (fU (objs:=x.objs) KK Mz.2);have Pf:(aK x.objs e.n).cls < u.aq.length:=by
    rcases hO.2 with ⟨C,_⟩|⟨_,C,_⟩
    ·omega
    exact C
   refine(g.gZ KK Mz.2).elim λQM w=>w.elim λND w=>w.elim λvv w=>w.elim λBi w=>?_;have MA:=w.1;rw[zl]at MA;simp only[Option.some.injEq,Value.slice.injEq,Addr.mk.injEq,and_true,true_and]at MA;have oU:=MA.1;subst oU;have q3:=w.2.1;have P:=g.jl.1;have M:=g.jl.2.1;rw[nu]at P;rw[D1]at M;have hut:=f.un.le g.ma.le;have Um:=qp [.slice aa u.aq.length S,.slice ab u.methods.length T] u (aK x.objs e.n).cls b Uk hut ok O Pf;have QL:0<=find u (aK x.objs e.n).cls b/\find u (aK x.objs e.n).cls b < u.methods.length:=⟨hsend W5 _ Pf rG.2,(gK u _ _).2⟩
   have Un:=g.jl.2.2.2.2.2;refine Un.elim λpa d=>d.elim λca d=>d.elim λqa d=>d.elim λda d=>?_;have o:=d.1;simp only[List.cons.injEq,Value.slice.injEq,true_and,and_true]at o;have Pa:=o.1.1;have Pb:=o.1.2;have Pc:=o.2.1;have Pd:=o.2.2;subst Pa Pb Pc Pd;have Pg:=d.2.2.2.1;generalize (aK x.objs e.n).cls=cl at *;generalize hkg:find u cl b=kk at *;conv=>whnf
   repeat' ((first|refine ld P ?_|refine ld M ?_|refine ay ?_|refine av ?_|refine ptr ?_)<;>conv=>whnf)
   repeat' ((first|exact trivial|apply And.intro|refine dh Pg ?_|refine ld q3 ?_|refine aO Um ?_)<;>conv=>whnf)
   all_goals
    have Ph:Tp Uk y x.fs.length bf:=by obtain⟨c0,q0⟩:=KJ;exact⟨c0,by rw[rt3];exact q0⟩
    have Uo:bR Uk (.slice (some ⟨bg,0,none⟩) ((x.f.stack.drop m).map bM).length cg) (x.f.stack.drop m) Q:=Mt.aJ λb D af H=>by
     rw[Pe.qv b (by rw[H];simp) (λI=>by obtain⟨o2,v⟩:=mW b I;rw[k3 b D]at v;cases v)];exact H
    have Up:∀ b∈Q,b ∉ y::Ul:=λb D I=>by
     rcases Pe.new b I with J|J
     ·obtain⟨o2,v⟩:=mW b J;rw[k3 b D]at v;cases v
     obtain⟨o2,v⟩:=Mt.in b D;rw[J]at v;cases v
    refine Ph.elim λcf O7=>?_;refine ld O7 ?_;conv=>whnf
    apply aD<;>intro gf;all_goals conv=>whnf
    ·refine aG (iH g 6) (λag F t=>?_);conv=>whnf
     rw[q,if_neg QO,if_neg s,if_pos O];exact XE.trans V t.Mq
    refine(g.rest Ph p.tJ (m:=m) O).elim λp3 d=>d.elim λc3 d=>?_;have w3:=d.1;have wc:=d.2.1;have O8:=d.2.2.2;rw[<-O6]at O8;repeat' ((first|exact trivial|apply And.intro|refine ld w3 ?_|refine ay ?_|refine av ?_)<;>conv=>whnf)
    all_goals
     refine O8 _ (λF t=>?_);rw[O6]at t;refine t.elim λB3 tB=>?_;have G:=tB.1;have vV:=V.trans tB.2.1;refine(XM.wC G (show(x.fs++[_]).length<=1000 by simp;omega)).elim λpf j=>j.elim λTO j=>j.elim λO9 grow=>?_;have Mu:=G.jl.2.2.2.2.2;refine Mu.elim λpa d=>d.elim λca d=>d.elim λqa d=>d.elim λda d=>?_;have o:=d.1;simp only[List.cons.injEq,Value.slice.injEq,true_and,and_true]at o;have Pa:=o.1.1;have Pb:=o.1.2;have Pc:=o.2.1;have Pd:=o.2.2;subst Pa Pb Pc Pd;have Gm:=d.2.2.2.1;have Ub:bR F (.slice (some ⟨bg,0,none⟩) ((x.f.stack.drop m).map bM).length cg) (x.f.stack.drop m) Q:=Uo.aJ λb D af H=>by
      rw[tB.2.1.qv b (by rw[H];simp) (λI=>?_)]
      ·exact H
      exact Up b D I
     have Uc:∀ {ae:Value->Heap->Prop} {ad:List PanicEntry->Heap->Prop},_->fE prog 90 [.agg #[.slice aa u.aq.length S,.slice ab u.methods.length T],.int .i64 kk,.slice (some ⟨bg,0,none⟩) ((x.f.stack.drop m).map bM).length cg] F ae ad:=λ{ae ad} hK=>jX _ u kk (x.f.stack.drop m) _ F (f.un.le G.ma.le) QL (Ub.read (by simp;omega)) O (by have:=(hu.aY QL).1.2.2.2.2.1;omega) hK;conv=>whnf
     repeat' ((first|exact trivial|apply And.intro|refine dh Gm ?_|refine ld O9 ?_|refine ld (aW l4 O9) ?_|refine Uc (λh4 p5 n5 c5 p6 n6 c6 B5 B6 l4 o5 o6 Ud f56=>?_))<;>conv=>whnf)
     all_goals
      refine grow h4 l4 (eY u kk (x.f.stack.drop m)) (B5++B6) _ _ ⟨_,_,B5,B6,rfl,o5,o6,rfl⟩ Ud f56 rfl rfl rfl rfl Z (λp' c' h5 Mv=>?_);conv=>whnf
      refine Mv _ (λh6 Ue=>?_);conv=>whnf
      rw[q,if_neg QO,if_neg s,if_neg O];exact XE.trans vV Ue
def Kp (x y:Sx):Prop:=y.fs=x.fs/\y.f.pc=x.f.pc/\y.f.aC=x.f.aC
theorem Kp.refl (x:Sx):Kp x x:=⟨rfl,rfl,rfl⟩
theorem Kp.trans {x y z:Sx} (a:Kp x y) (b:Kp y z):Kp x z:=⟨b.1.trans a.1,b.2.1.trans a.2.1,b.2.2.trans a.2.2⟩
theorem pN (x:Sx):Kp x (aZ x).2:=by unfold aZ;split<;>exact⟨rfl,rfl,rfl⟩
theorem fV (x:Sx):Kp x (aF x).2:=by unfold aF;split<;>exact pN x
theorem je (x:Sx):Kp x (aI x).2:=by unfold aI;split<;>exact pN x
theorem ia (x:Sx) (v:Vl):Kp x (cY x v):=zI x v
theorem jY (x:Sx) (k:Int):Kp x (cz x k):=by unfold cz;split<;>exact⟨rfl,rfl,rfl⟩
theorem qO (u:aS) (x:Sx) (n k:Int):Kp x (bw u x n k):=by
 unfold bw;split
 ·exact Kp.refl x
 split
 ·exact jY x 2
 split<;>exact⟨rfl,rfl,rfl⟩
theorem ye (x:Sx) (o:Ob):Kp x (gQ x o):=by
 unfold gQ;split
 ·exact Kp.refl x
 exact(show Kp x {x with objs:=x.objs++[o]}from⟨rfl,rfl,rfl⟩).trans (ia _ _)
theorem Pj (x:Sx) (a:Int):Kp x (Gf x a):=by
 unfold Gf;simp only;split
 ·exact((fV x).trans (fV _)).trans (ia _ _)
 exact((fV x).trans (fV _)).trans (jY _ _)
theorem Gn (x:Sx) (k:Int):Kp x (kG x k):=by
 unfold kG;split
 ·exact(fV x).trans (ye _ _)
 exact((fV x).trans (jY _ _)).trans (ye _ _)
theorem I2 (x:Sx):Kp x (oV x):=by
 unfold oV;simp only;split
 ·exact je x
 split
 ·exact(je x).trans (jY _ _)
 exact(je x).trans (ia _ _)
theorem C0 (u:aS) (x:Sx) (k:Int) (s:Bool):Kp x (qL u x k s):=by
 cases s
 ·have a:=((fV x).trans (je _)).trans (qO u _ (aI (aF x).2).1 (-1-k));unfold qL;simp only[Bool.false_eq_true,if_false];split
  ·exact a
  split
  ·exact a.trans (jY _ _)
  exact a.trans (ia _ _)
 have a:=(((pN x).trans (fV _)).trans (je _)).trans (qO u _ (aI (aF (aZ x).2).2).1 (-1-k));unfold qL;simp only[if_true];split
 ·exact a
 split
 ·exact a.trans (jY _ _)
 exact a.trans ⟨rfl,rfl,rfl⟩
theorem zL (u:aS) (x:Sx) (k i:Int) (s:Bool):Kp x (mG u x k i s):=by
 cases s
 ·have a:=(je x).trans (qO u _ (aI x).1 k);unfold mG;simp only[Bool.false_eq_true,if_false];split
  ·exact a
  exact a.trans (ia _ _)
 have a:=((pN x).trans (je _)).trans (qO u _ (aI (aZ x).2).1 k);unfold mG;simp only[if_true];split
 ·exact a
 exact a.trans ⟨rfl,rfl,rfl⟩
theorem I3 (u:aS) (x:Sx) (k:Int):Kp x (oW u x k):=by
 unfold oW;simp only;split
 ·exact je x
 split
 ·exact(je x).trans (jY _ _)
 exact(je x).trans (ia _ _)
theorem Gp (x:Sx) (i:dc):Kp x (eE x i):=by
 unfold eE;split
 ·exact ia _ _
 split
 ·exact ia _ _
 split
 ·exact ia _ _
 split
 ·exact pN x
 split
 ·exact pN x
 split
 ·exact((pN x).trans (ia _ _)).trans (ia _ _)
 split
 ·exact Pj _ _
 split
 ·split<;>exact fV x
 exact Kp.refl x
theorem I4 (u:aS) (x:Sx) (i:dc):Kp x (fM u x i):=by
 unfold fM;split
 ·exact ye _ _
 split
 ·exact Gn _ _
 split
 ·exact I2 _
 split
 ·exact C0 _ _ _ _
 split
 ·exact C0 _ _ _ _
 split
 ·exact zL _ _ _ _ _
 split
 ·exact zL _ _ _ _ _
 split
 ·exact I3 _ _ _
 exact Kp.refl x
theorem Gq (x:Sx) (i:dc):Kp x (ek x i).2:=by
 unfold ek;split
 ·exact(fV x).trans (fV _)
 split
 ·exact(fV x).trans (fV _)
 split
 ·exact je x
 exact Kp.refl x
theorem I5 {h0 h:Heap} {d:Nat} {e:List Value} {u:aS} {x:Sx} {B:List Nat} (f:XS h0 h d e u x B) (c a b:Int) (i:c < 12\/19 < c) :
  bI prog 107 [.pointer (some ⟨d,0,none⟩),.agg #[.int .i64 c,.int .i64 a,.int .i64 b]] h λ_ h'=>XR h0 h d e u B (fM u x ⟨c,a,b⟩) h':=by
 have g:fM u x ⟨c,a,b⟩=x:=by
  unfold fM;simp only;repeat rw[if_neg O]
 rw[g];refine bT aB func107 LD J7 rfl ?_;conv=>whnf
 repeat' ((first|refine bD ?_)<;>conv=>whnf)
 exact⟨B,f,Ev.refl _ _,rfl⟩
def eH (x:Sx):Sx:={x with f:={x.f with pc:=x.f.pc+1} }
def uL (u:aS) (x:Sx) (i:dc):bH × Bool × Int :=
 if i.kind=22 then s4 x
 else if i.kind=20\/i.kind=21 then iu u x i
 else if i.kind=23 then (if (aI x).1=0 then (cz (aI x).2 2).res else if (aI x).2.st=false then jW u (aI x).1 (aI x).2.x5 (aI x).2.st (aI x).2.ft else (aI x).2.res)
 else if 8<=i.kind/\i.kind<=11 then (if (ek (eH x) i).1=true then ({ (ek (eH x) i).2 with f:={ (ek (eH x) i).2.f with pc:=i.a} }:Sx).res else (ek (eH x) i).2.res)
 else (eH (fM u (eE x i) i)).res
theorem jn.bump {u:aS} {x:Sx} (h:jn u x) (m:x.f.pc < (aY u x.f.aC).code.length):jn u (eH x):=by
 obtain⟨a,b,c,⟨e,o,f,g,i,j⟩,d⟩:=h;exact⟨a,b,c,⟨e,⟨by show 0<=x.f.pc+1;omega,by show x.f.pc+1<=((aY u x.f.aC).code.length:Int);omega⟩,f,g,i,j⟩,d⟩
structure Pk (u:aS) (x:Sx):Prop where
 ok:jn u x
 fs:∀ g∈x.fs,tC u x.objs.length g
 st:x.st=false
 ft:x.ft=0
 pc:x.f.pc < (aY u x.f.aC).code.length
 said:x.said.length<=300
theorem MB {h0 h:Heap} {t:Nat} {M:List Value} {u:aS} {x:Sx} {B:List Nat} (v:XS h0 h t M u x B) (g:Pk u x) (F:cC u) (c a b:Int) (K:ej u (aY u x.f.aC) ⟨c,a,b⟩) :
  bI prog 44 [.pointer (some ⟨t,0,none⟩),.agg #[.int .i64 c,.int .i64 a,.int .i64 b]] h λ_ h'=>XE h0 h t M u B (uL u x ⟨c,a,b⟩) h':=by
 obtain⟨g,FH,nu,D1,NG,KH⟩:=g;have ok:=F.1;have WU:=F.aY g.gh.1;have rG:∀ G∈u.methods,G.code.length<=1000:=λG W=>by have:=(F.2.2.2.1 G W).2.1.2.1;omega
 have DP:=g.gh.2.1;have aag:=rG _ (fB g.gh.1);have e:uL u x ⟨c,a,b⟩=if c=22 then s4 x
  else if c=20\/c=21 then iu u x ⟨c,a,b⟩
  else if c=23 then (if (aI x).1=0 then (cz (aI x).2 2).res else if (aI x).2.st=false then jW u (aI x).1 (aI x).2.x5 (aI x).2.st (aI x).2.ft else (aI x).2.res)
  else if 8<=c/\c<=11 then (if (ek (eH x) ⟨c,a,b⟩).1=true then ({ (ek (eH x) ⟨c,a,b⟩).2 with f:={ (ek (eH x) ⟨c,a,b⟩).2.f with pc:=a} }:Sx).res else (ek (eH x) ⟨c,a,b⟩).2.res)
  else (eH (fM u (eE x ⟨c,a,b⟩) ⟨c,a,b⟩)).res:=rfl
 generalize uL u x ⟨c,a,b⟩=res at e ⊢;by_cases R:c=22
 ·subst R;refine bT aB func44 LB Dz rfl ?_;conv=>whnf
  refine aG (Mr v g FH rG) (λz j d=>?_);conv=>whnf
  rw[e];exact d
 rw[if_neg R]at e;by_cases IS:c=20
 ·subst IS;have:=(aL (p:=7) (q:=0) rfl).1 K;simp[br]at this;have P:=this.1.1;refine bT aB func44 LB Dz rfl ?_;conv=>whnf
  refine aG (D2 v g F a b nu D1 P) (λz j d=>?_);conv=>whnf
  rw[e];exact d
 by_cases Mh:c=21
 ·subst Mh;have:=(aL (p:=5) (q:=9) rfl).1 K;simp[br]at this;have P:=this.1;refine bT aB func44 LB Dz rfl ?_;conv=>whnf
  refine aG (D3 v g F a b nu D1 P (λhf A T CT=>(sj F P.2 hf (A.toNat+1) O T CT).1)) (λz j d=>?_);conv=>whnf
  rw[e];exact d
 rw[if_neg O]at e;by_cases KE:c=23
 ·subst KE;rw[if_pos rfl]at e;have Q:=g.ref;have O7:=sZ v g;have w:=je x;have FD:(aI x).2.objs=x.objs:=(hY x).2.1;generalize (aI x).1=n at *;generalize (aI x).2=y at *;refine bT aB func44 LB Dz rfl ?_;conv=>whnf
  refine aG O7 (λz j d=>?_);have Y:=d.1;subst Y;refine d.2.elim λs m=>?_;have o:=m.1;conv=>whnf
  apply aD<;>intro i;all_goals conv=>whnf
  ·refine aG (iH o 2) (λz C d=>?_);conv=>whnf
   rw[e,if_pos i];exact XE.trans m.2.1 d.Mq
  have r9:=o.jl.1;refine ld r9 ?_;conv=>whnf
  apply cq<;>intro S;all_goals conv=>whnf
  ·have X:0 < n/\n<=y.objs.length:=by rw[FD];omega
   have hO:=Q.1.vK _ (fU (objs:=y.objs) X.1 X.2);have Gh : -2<=(aK y.objs n).cls/\(aK y.objs n).cls < u.aq.length:=by
    rcases hO.2 with ⟨C,_⟩|⟨C,h3,_⟩
    ·have:=ok.1;omega
    omega
   have hlen:=Q.1.len;have KA:=Q.1.nf;have DJ:∀ i∈y.x5.au,0<=i.aC/\i.aC < u.methods.length:=λi hg=>by
    have J:i∈y.fs++[y.f]:=hg;simp only[List.mem_append,List.mem_singleton]at J;rcases J with J|rfl
    ·rw[w.1]at J;exact(FH i J).1
    exact Q.1.gh.1
   have I1:∀ G∈u.methods,∀ A∈G.catches,(0<=A.hi/\A.hi<=1000)/\0<=A.cls:=λG W A T=>by
    have HZ:=F.2.2.2.1 G W;have j:=HZ.2.2.2 A T;have C:=HZ.2.1.2.1;obtain⟨q1,q2,q3,_⟩:=j;omega
   refine aG (yd o ok n X (show y.objs.length<=1000 by omega) (show(y.fs++[y.f]).length<=1000 by simp;omega) Gh DJ I1) (λz C d=>?_);conv=>whnf
   rw[e,if_neg i,if_pos S];exact XE.trans m.2.1 d
  rw[e,if_neg i,if_neg (by rw[S];simp)];exact⟨s,o,m.2.1⟩
 rw[if_neg KE]at e;by_cases kj:8<=c/\c<=11
 ·rw[if_pos kj]at e;obtain⟨bf,I⟩:=v.tp;have oK:=qK v I g.x8;have L:=v.ij I;have hsb:=g.bump NG;have w:=Gq (eH x) ⟨c,a,b⟩;refine bT aB func44 LB Dz rfl ?_;conv=>whnf
  refine cx R ?_;conv=>whnf
  repeat' ((first|refine bD ?_)<;>conv=>whnf)
  refine ax (de _ _ _ _) ?_;conv=>whnf
  refine bZ ?_;conv=>whnf
  refine ax oK ?_;conv=>whnf
  refine ld L.1 ?_;conv=>whnf
  refine av ?_;conv=>whnf
  refine L.2 _ _ (λj d=>?_);refine d.elim λs m=>?_;have o:XS h0 j t M u (eH x) s:=m.1;conv=>whnf
  refine aG (I0 o hsb c a b) (λz C d=>?_);have Y:=d.1;subst Y;refine d.2.elim λB2 H=>?_;have D:=H.1;have N:=m.2.1.trans H.2.1;have KJ:Tp C t (ek (eH x) ⟨c,a,b⟩).2.fs.length bf:=by
   obtain⟨c0,q0⟩:=I;exact⟨c0,by rw[H.2.2,m.2.2,w.1];exact q0⟩
  have W7:=D.ij KJ;have BA:(ek (eH x) ⟨c,a,b⟩).2.fs.length=x.fs.length:=by rw[w.1];rfl
  rw[BA]at W7;conv=>whnf
  apply dM<;>intro i;all_goals conv=>whnf
  ·refine W7.2 _ _ (λh3 V=>?_);conv=>whnf
   rw[e,if_pos i];exact XE.trans N V.Mq
  rw[e,if_neg (by rw[i];simp)];exact⟨B2,D,N⟩
 rw[if_neg kj]at e;have HX:Mo u x ⟨c,a,b⟩:=by
  refine⟨λE=>?_,λE=>?_,K.sn⟩
  ·simp only at E;have hl:=g.gh.2.2.1;rcases E with rfl|rfl;all_goals
    have:=(aL (p:=2) (q:=0) rfl).1 K;simp[br]at this;show 0<=a/\a < (x.f.locals.length:Int);omega
  simp only at E;rcases E with rfl|rfl|rfl;all_goals
   have:=(aL (p:=6) (q:=0) rfl).1 K;simp[br]at this;exact this.1
 have Pm:∀(j:Heap) (s:List Nat),XS h0 j t M u (eE x ⟨c,a,b⟩) s->bI prog 107 [.pointer (some ⟨t,0,none⟩),.agg #[.int .i64 c,.int .i64 a,.int .i64 b]] j λ_ h'=>XR h0 j t M u s (fM u (eE x ⟨c,a,b⟩) ⟨c,a,b⟩) h':=by
  intro j s o;by_cases E:c < 12\/19 < c
  ·exact I5 o c a b E
  have hp:eE x ⟨c,a,b⟩=x:=by
   unfold eE;simp only;repeat rw[if_neg O]
  rw[hp]at o ⊢;exact Mp o g ok c a b HX
 have w:=(Gp x ⟨c,a,b⟩).trans (I4 u (eE x ⟨c,a,b⟩) ⟨c,a,b⟩);refine bT aB func44 LB Dz rfl ?_;conv=>whnf
 refine cx R ?_;conv=>whnf
 repeat' ((first|refine bD ?_)<;>conv=>whnf)
 refine ax (de _ _ _ _) ?_;conv=>whnf
 refine bD ?_;conv=>whnf
 refine aG (IZ v g c a b HX O) (λz j d=>?_);refine d.elim λs m=>?_;conv=>whnf
 refine aG (Pm j s m.1) (λz C d=>?_);refine d.elim λB2 H=>?_;have D:=H.1;have N:=m.2.1.trans H.2.1;generalize fM u (eE x ⟨c,a,b⟩) ⟨c,a,b⟩=y at D w e;refine D.tp.elim λbf I=>?_;have EH:y.fs.length<=1000:=by rw[w.1];exact g.x8
 have L:=D.ij I;have hyp:=w.2.1;conv=>whnf
 refine ax (qK D I EH) ?_;conv=>whnf
 refine ld L.1 ?_;conv=>whnf
 refine av ?_;conv=>whnf
 refine L.2 _ _ (λh3 V=>?_);conv=>whnf
 rw[e];exact XE.trans N V.Mq
theorem uM {o:TypeId} {h e:Heap} {b:Nat} {t:TypeId} {l:List Vl} {vs:List Value} {m:Nat} {K:Value->Heap->Prop} (u:h.le e) (q:e b=some (.cells #[] t (0,0))) (p:h b=none) (i:vs=(l.map bM).flatten) (v:m=(l.map bM).length) (g:(l.map bM).length<=1000000)
  (s:∀ d c a B',h.le a->bR a (.slice d (l.map bM).length c) l B'->(∀ b∈B',h b=none)->K (.slice d (l.map bM).length c) a):App 16 2 [.bool false,.int .i64 0] o e (some ⟨b,0,none⟩) 0 0 m vs K:=by
 refine cX (h0:=h) (xs:=[]) (ys:=l.map bM) (B:=[b]) (dL q) (by simpa using p) u i v (λE w=>by obtain⟨D,_,rfl⟩:=List.mem_map.1 w;rfl) (by rw[i];exact gJ l) rfl (by simp at g ⊢;omega) (by simp at g ⊢;omega) ?_;intro C a j x f y z A;rw[List.nil_append]at f;obtain⟨d,c,rfl,_⟩:=bW.form f;exact s d c a j x f y
theorem wJ {o:TypeId} {h e:Heap} {b:Nat} {t:TypeId} {l:List Int} {vs:List Value} {m:Nat} {K:Value->Heap->Prop} (u:h.le e) (q:e b=some (.cells #[] t (0,0))) (p:h b=none) (i:vs=(l.map bP).flatten) (v:m=(l.map bP).length) (g:(l.map bP).length<=1000000)
  (s:∀ d c a B',h.le a->dI a (.slice d (l.map bP).length c) l B'->(∀ b∈B',h b=none)->K (.slice d (l.map bP).length c) a):App 8 1 [.int .i64 0] o e (some ⟨b,0,none⟩) 0 0 m vs K:=by
 refine cX (h0:=h) (xs:=[]) (ys:=l.map bP) (B:=[b]) (dL q) (by simpa using p) u i v (λE w=>by obtain⟨D,_,rfl⟩:=List.mem_map.1 w;rfl) (by rw[i,dy];exact di l) rfl (by simp at g ⊢;omega) (by simp at g ⊢;omega) ?_;intro C a j x f y z A;rw[List.nil_append]at f;obtain⟨d,c,rfl,_⟩:=bW.form f;exact s d c a j x f y
theorem Acc.BQ {p:Type} {R:Heap->List Value->p->List Nat->Prop} {sz:Nat} {h0 h:Heap} {A:List Nat} {b:Nat} {t:TypeId} (j:h0.le h) (g:h0 b=none) (i:h b=some (.cells #[] t (0,0))) (f:b ∉ A) (nd:Nd A) (e:∀ b∈A,h0 b=none) (m:∀ b∈A,∃ o,h b=some o):Acc R sz h0 h (.slice (some ⟨b,0,none⟩) 0 0) [] [b] A :=
 ⟨j,⟨[],[b],[],dL i,.nil,rfl⟩,λc=>by
  simp only[List.count_append,List.count_cons,List.count_nil];by_cases d:b=c
  ·subst d;simp[List.count_eq_zero.2 f]
  ·simp[d];exact nd c,λx a=>by
  rcases List.mem_append.1 a with a|a
  ·rw[List.mem_singleton.1 a];exact g
  exact e x a,m⟩
theorem sq (mc:List Value) (M:bH) (h:Heap) (hr:qy h mc M) :
  bI prog 20 [.agg ⟨mc⟩] h λv h'=>h.le h'/\∃ Fx B,v=.agg ⟨Fx⟩/\eX h' Fx M B/\Nd B/\∀ b∈B,h b=none:=by
 obtain⟨vo,vf,vs,rfl,s1,s2,d,hf,hs⟩:=hr;obtain⟨po,co,rfl,_,_⟩:=d.len;obtain⟨pf,L,rfl,_,_⟩:=hf.len;have Ta:=hs;obtain⟨DZ,_,I,F,rfl,_⟩:=hs;refine bT aB func20 YA U rfl ?_;unfold aE;conv=>whnf
 refine dn [] rfl (λb0 h1 CQ e0 l1 g0=>?_);conv=>whnf
 refine eu [1,2,3,4] [1,2,3] (λs:Nat × Heap × Option Addr × Nat × List Nat=>s.1<=M.objs.length/\Acc jt 2 h s.2.1 (.slice s.2.2.1 s.1 s.2.2.2.1) (M.objs.take s.1) s.2.2.2.2 []) (λs=>M.objs.length-s.1)
  (λs=>([.l 1 0,.l 2 0,.l 3 0,.v (.int .i64 s.1)],
   [some (aE (.slice po M.objs.length co) (.slice pf M.au.length L) (.slice I (M.said.map bP).length F) M),some [.slice none 0 0,.slice none 0 0,.slice none 0 0,.int .i64 0,.int .i64 0,.bool false,.int .i64 0],
    some (aE (.slice s.2.2.1 s.1 s.2.2.2.1) (.slice pf M.au.length L) (.slice I (M.said.map bP).length F) M)],s.2.1))
  (0,h1,some ⟨b0,0,none⟩,0,[b0]) ⟨O,Acc.BQ l1 CQ g0 Z (λ_=>Z) Z Z⟩ rfl ?_
 rintro⟨i,h2,ab,aa,B⟩ ⟨Y,ac⟩;simp only at Y ac ⊢;unfold aE;conv=>whnf
 apply aD<;>intro R;all_goals conv=>whnf
 ·have z:i < M.objs.length:=by omega
  have N:=(d.le ac.le (λ_ _ f=>f.le ac.le)).get z;obtain⟨bb,off,xs,hq,m,vv,rfl,p⟩:=N;have P:=p;obtain⟨Q,_,pv,cv,rfl,_⟩:=p;have r0:=aM m (i:=0) rfl;have r1:=aM m (i:=1) rfl;repeat' ((first|exact trivial|apply And.intro|refine ay ?_|refine aP hq ?_|refine ld r0 ?_|refine ld r1 ?_|refine ld (aW G r0) ?_|refine ld (aW G r1) ?_|refine ld (aW l4 r0) ?_|refine dn [] rfl (λb1 T yE W2 G g3=>?_)|refine jM.IB (P.le G) ?_|refine uM G g3 yE rfl rfl Q (λH E h4 B4 l4 o4 n4=>?_))<;>conv=>whnf)
  all_goals
   refine qz gP vH (a:=M.objs[i]) (Bi:=B4) ac l4 ⟨_,rfl,o4⟩ o4.nd n4 rfl rfl rfl rfl (by simp;omega) (by simp;omega) ?_;intro H E V J x hk;have A:(M.objs.take i).length=i:=by simp;omega
   rw[List.take_append_getElem z,A]at x;rw[A];conv=>whnf
   refine av ?_;conv=>whnf
   exact cT (i+1,V,H,E,J) ⟨O,x⟩ (by simp only;omega) rfl
 have vU:i=M.objs.length:=by omega
 subst vU;rw[List.take_length]at ac;have hA:Nd B:=by have:=ac.nd;simpa using this
 have W8:∀ b∈B,h b=none:=λb c=>ac.fr b (by simp[c]);have Po:=ac.own.in vH;refine dn [] rfl (λj h6 W ee6 l6 g6=>?_);conv=>whnf
 have vG:h j=none:=by
  cases y:h j with
  | none=>rfl
  | some o=>rw[ac.le j o y]at W;cases W
 have Uq:j ∉ B:=λf=>by obtain⟨o,d⟩:=Po j f;rw[W]at d;cases d
 refine eu [1,2,3,5] [1,2,3] (λs:Nat × Heap × Option Addr × Nat × List Nat=>s.1<=M.au.length/\Acc mo 4 h s.2.1 (.slice s.2.2.1 s.1 s.2.2.2.1) (M.au.take s.1) s.2.2.2.2 B/\dR jt 2 s.2.1 (.slice ab M.objs.length aa) M.objs B) (λs=>M.au.length-s.1)
  (λs=>([.l 1 0,.l 2 0,.l 3 0,.v (.int .i64 s.1)],
   [some (aE (.slice po M.objs.length co) (.slice pf M.au.length L) (.slice I (M.said.map bP).length F) M),some [.slice none 0 0,.slice none 0 0,.slice none 0 0,.int .i64 0,.int .i64 0,.bool false,.int .i64 0],
    some (aE (.slice ab M.objs.length aa) (.slice s.2.2.1 s.1 s.2.2.2.1) (.slice I (M.said.map bP).length F) M)],s.2.1))
  (0,h6,some ⟨j,0,none⟩,0,[j]) ⟨O,Acc.BQ (Heap.le_trans ac.le l6) vG g6 Uq hA W8 (λb c=>by obtain⟨o,d⟩:=Po b c;exact⟨o,l6 b o d⟩),ac.own.aJ gP (cD.of_le l6 _)⟩ rfl ?_
 rintro⟨i,T,p2,c2,K⟩ ⟨Y,e,oo⟩;simp only at Y e oo ⊢;unfold aE;conv=>whnf
 apply aD<;>intro R;all_goals conv=>whnf
 ·have z:i < M.au.length:=by omega
  have N:=(hf.le e.le (λ_ _ f=>f.le e.le)).get z;obtain⟨bb,off,xs,hq,m,v1,v2,rfl,p,e3⟩:=N;have P:=p;have Tb:=e3;obtain⟨Q,_,pv,cv,rfl,_⟩:=p;obtain⟨e3l,_,pw,cw,rfl,_⟩:=e3;refine ay ?_;conv=>whnf
  refine aP hq ?_;conv=>whnf
  refine dh m ?_;conv=>whnf
  refine dn [] rfl (λb7 h7 hb7 ee7 l7 g7=>?_);conv=>whnf
  refine jM.IB (P.le l7) ?_;conv=>whnf
  refine uM l7 g7 hb7 rfl rfl Q (λp8 c8 h8 w l8 o8 n8=>?_);conv=>whnf
  refine dn [] rfl (λb9 h9 X ee9 C S=>?_);conv=>whnf
  refine jM.IB (Tb.le (Heap.le_trans l8 C)) ?_;conv=>whnf
  refine uM C S X rfl rfl e3l (λp10 W9 IK g t D u=>?_);conv=>whnf
  have nF:Nd (w++g):=by
   intro a;have m:=o8.nd a;have p:=D.nd a;simp only[List.count_append];by_cases q:a∈g
   ·have:w.count a=0:=by
     refine List.count_eq_zero.2 λf=>?_;obtain⟨o,d⟩:=o8.in a f;rw[u a q]at d;cases d
    omega
   have:=List.count_eq_zero.2 q;omega
  have fF:∀ b∈w++g,T b=none:=by
   intro b c;rcases List.mem_append.1 c with c|c
   ·exact n8 b c
   cases y:T b with
   | none=>rfl
   | some o=>have:=u b c;rw[l8 b o y]at this;cases this
  refine qz jL Nv (a:=M.au[i]) (Bi:=w++g) e (Heap.le_trans l8 t) ⟨_,_,w,g,rfl,o8.aJ (cD.of_le t _),D,rfl⟩ nF fF rfl rfl rfl rfl (by simp;omega) (by simp;omega) ?_;intro H E V J x hk;have A:(M.au.take i).length=i:=by simp;omega
  rw[List.take_append_getElem z,A]at x;rw[A];conv=>whnf
  refine av ?_;conv=>whnf
  exact cT (i+1,V,H,E,J) ⟨O,x,oo.aJ gP hk⟩ (by simp only;omega) rfl
 have vU:i=M.au.length:=by omega
 subst vU;rw[List.take_length]at e;refine dn [] rfl (λb9 h9 X ee9 C S=>?_);conv=>whnf
 refine jM.IB (Ta.le (Heap.le_trans e.le C)) ?_;conv=>whnf
 refine wJ C S X rfl rfl DZ (λp10 W9 IK g t D u=>?_);conv=>whnf
 have LR:=e.own.in Nv;refine⟨Heap.le_trans e.le t,_,B++K++g,rfl,⟨_,_,_,B,K,g,rfl,oo.aJ gP (cD.of_le t _),e.own.aJ jL (cD.of_le t _),D,rfl⟩,?_,λb c=>?_⟩
 ·intro a;have m:=e.nd a;have p:=D.nd a;simp only[List.count_append]at m ⊢;by_cases q:a∈g
  ·have:K.count a=0:=List.count_eq_zero.2 λf=>by obtain⟨o,d⟩:=LR a f;rw[u a q]at d;cases d
   have:B.count a=0:=List.count_eq_zero.2 λf=>by obtain⟨o,d⟩:=e.Ws a f;rw[u a q]at d;cases d
   omega
  have:=List.count_eq_zero.2 q;omega
 simp only[List.mem_append]at c;rcases c with (c|c)|c
 ·exact W8 b c
 ·exact e.fr b (by simp[c])
 cases y:h b with
 | none=>rfl
 | some o=>have:=u b c;rw[e.le b o y]at this;cases this
def Mon (x y:Sx):Prop:=x.st=true->y.st=true
theorem C3 (x:Sx):Mon x (aZ x).2:=λh=>by unfold aZ;split;rfl;exact h
theorem jZ (x:Sx):Mon x (aF x).2:=λh=>by unfold aF;split;rfl;exact C3 x h
theorem kz (x:Sx):Mon x (aI x).2:=λh=>by unfold aI;split;exact C3 x h;rfl
theorem nD (x:Sx) (v:Vl):Mon x (cY x v):=λh=>by unfold cY;split;rfl;exact h
theorem oE (x:Sx) (k:Int):Mon x (cz x k):=λh=>by unfold cz;split;exact h;exact h
theorem wK (u:aS) (x:Sx) (n k:Int):Mon x (bw u x n k):=λh=>by
 unfold bw;rw[if_pos (.inl h)];exact h
theorem Gr (x:Sx) (o:Ob):Mon x (gQ x o):=λh=>by unfold gQ;rw[if_pos (.inl h)];exact h
theorem nE {x:Sx} (h:x.f.stack=[]):(aZ x).2.st=true:=by rw[qM h]
theorem iU {x:Sx} (h:x.f.stack=[]):(aF x).2.st=true:=by
 unfold aF;split;rfl;exact nE h
theorem e8 {x:Sx} {l:List Vl} {v:Vl} (h:x.f.stack=l++[v]) (a:v.ref=true):(aF x).2.st=true:=by
 unfold aF;rw[eO h];simp[a]
theorem fW {x:Sx} {l:List Vl} {v:Vl} (h:x.f.stack=l++[v]) (a:v.ref=false):aF x=(v.n,{x with f:={x.f with stack:=l} }):=by
 unfold aF;rw[eO h];simp[a]
theorem kA {x:Sx} (h:x.f.stack=[]):(aI x).2.st=true:=by
 unfold aI;split;exact nE h;rfl
theorem kB {x:Sx} {l:List Vl} {v:Vl} (h:x.f.stack=l++[v]) (a:v.ref=false):(aI x).2.st=true:=by
 unfold aI;rw[eO h];simp[a]
theorem nG {x:Sx} {l:List Vl} {v:Vl} (h:x.f.stack=l++[v]) (a:v.ref=true):aI x=(v.n,{x with f:={x.f with stack:=l} }):=by
 unfold aI;rw[eO h];simp[a]
def Rl (r:Except Int bH) (s:bH × Bool × Int):Prop:=match r with
 | .ok a=>s=(a,false,0)
 | .error k=>if k=0 then s.2.1=true else s.2.1=false/\s.2.2=k
theorem Rl.stuck {s:bH × Bool × Int} (h:s.2.1=true):Rl (.error 0) s:=by simp[Rl,h]
theorem Rl.Gs {s:bH × Bool × Int} {k:Int} (c:k≠0) (a:s.2.1=false) (b:s.2.2=k):Rl (.error k) s:=by simp[Rl,c,a,b]
theorem Rl.ok {s:bH × Bool × Int} {M':bH} (h:s=(M',false,0)):Rl (.ok M') s:=h
theorem zM {u:aS} {x:dc} {cA:List Vl} (h:cI u x=some []):dz u x cA=some ([],cA):=by simp[dz,h,gA]
theorem j0 {u:aS} {x:dc} {w:Int} (h:cI u x=some [w]):dz u x []=none:=by simp[dz,h]
theorem nH {u:aS} {x:dc} {w:Int} {l:List Vl} {v:Vl} (h:cI u x=some [w]):dz u x (l++[v])=if gA [w] [v]=true then some ([v],l)else none:=by simp[dz,h]
theorem nI {u:aS} {x:dc} {a b:Int} {cA:List Vl} (h:cI u x=some [a,b]) (c:cA.length < 2):dz u x cA=none:=by
 simp[dz,h];omega
theorem C4 {u:aS} {x:dc} {c d:Int} {l:List Vl} {a b:Vl} (h:cI u x=some [c,d]):dz u x (l++[a,b])=if gA [c,d] [a,b]=true then some ([a,b],l)else none:=by
 simp[dz,h];intro e;omega
theorem BR {u:aS} {x:dc} {a b c:Int} {cA:List Vl} (h:cI u x=some [a,b,c]) (d:cA.length < 3):dz u x cA=none:=by
 simp[dz,h];omega
theorem Pp {u:aS} {x:dc} {d e f:Int} {l:List Vl} {a b c:Vl} (h:cI u x=some [d,e,f]):dz u x (l++[a,b,c])=if gA [d,e,f] [a,b,c]=true then some ([a,b,c],l)else none:=by
 simp[dz,h];intro g;omega
theorem gj (s:List Vl):s=[]\/∃ l v,s=l++[v]:=by
 rcases List.eq_nil_or_concat s with h|⟨l,v,h⟩
 ·exact .inl h
 exact .inr ⟨l,v,by simpa using h⟩
def aV (M:bH) (fs:List bL) (f:bL):Sx:=⟨M.objs,fs,f,M.said,M.steps,M.fin,M.out,false,0⟩
def oM (M:bH) (fs:List bL) (f:bL) (r:HW) (a:Int):Except Int bH:=match r with
 | .error e=>.error e
 | .ok (objs,g,said,goes)=>.ok {M with objs:=objs,said:=said,au:=fs++[{g with pc:=if goes then a else f.pc+1}]}
def nJ (u:aS) (x:Sx) (i:dc):bH × Bool × Int:=(eH (fM u (eE x i) i)).res
theorem jx {M:bH} {fs:List bL} {f:bL} {x:Sx} {v:Vl} {a:Int} {cA:List Vl} (b:x=aV M fs {f with stack:=cA}):Rl (oM M fs f (dV M.objs {f with stack:=cA} M.said v) a) (eH (cY x v)).res:=by
 subst b;by_cases h:cA.length < 4
 ·rw[lz h,nC h];exact Rl.ok rfl
 rw[jC (by show 4<=cA.length;omega),lB (by show 4<=cA.length;omega)];exact Rl.stuck rfl
theorem Gt {x:Sx} {k a b:Int} (h:12<=k/\k<=19):eE x ⟨k,a,b⟩=x:=by
 unfold eE;simp only;repeat rw[if_neg O]
theorem I6 {u:aS} {x:Sx} {k a b:Int} (h:k < 12\/19 < k):fM u x ⟨k,a,b⟩=x:=by
 unfold fM;simp only;repeat rw[if_neg O]
theorem Gu (u:aS) (M:bH) (fs:List bL) (f:bL) (k a b:Int) (B:k=1\/k=2\/k=3\/k=4\/k=5\/k=6\/k=7\/k=24) :
  Rl (match dz u ⟨k,a,b⟩ f.stack with
   | none=>.error 0
   | some (eB,rest)=>oM M fs f (eF u ⟨k,a,b⟩ eB M.objs {f with stack:=rest} M.said) a) (nJ u (aV M fs f) ⟨k,a,b⟩):=by
 have C:∀ x:Sx,fM u x ⟨k,a,b⟩=x:=λx=>I6 O;unfold nJ;rw[C];obtain⟨d,e,c,cA⟩:=f;simp only;rcases B with rfl|rfl|rfl|rfl|rfl|rfl|rfl|rfl
 ·rw[zM rfl];exact jx (f:=⟨d,e,c,cA⟩) rfl
 ·rw[zM rfl];exact jx (f:=⟨d,e,c,cA⟩) rfl
 ·rw[zM rfl];exact jx (f:=⟨d,e,c,cA⟩) rfl
 ·rcases gj cA with rfl|⟨l,v,rfl⟩
  ·rw[j0 rfl];exact Rl.stuck (nE (x:=aV M fs ⟨d,e,c,[]⟩) rfl)
  rw[nH rfl];have p:=eO (x:=aV M fs ⟨d,e,c,l++[v]⟩) rfl;have o:eE (aV M fs ⟨d,e,c,l++[v]⟩) ⟨4,a,b⟩=aV M fs ⟨d,e,c.set a.toNat v,l⟩:=by
   show({ (aZ _).2 with f:=_}:Sx)=_;rw[p];rfl
  rw[o];exact Rl.ok rfl
 ·rcases gj cA with rfl|⟨l,v,rfl⟩
  ·rw[j0 rfl];exact Rl.stuck (nE (x:=aV M fs ⟨d,e,c,[]⟩) rfl)
  rw[nH rfl];have p:=eO (x:=aV M fs ⟨d,e,c,l++[v]⟩) rfl;have o:eE (aV M fs ⟨d,e,c,l++[v]⟩) ⟨5,a,b⟩=aV M fs ⟨d,e,c,l⟩:=by
   show(aZ _).2=_;rw[p];rfl
  rw[o];exact Rl.ok rfl
 ·rcases gj cA with rfl|⟨l,v,rfl⟩
  ·rw[j0 rfl];exact Rl.stuck (nD _ (aZ (aV M fs ⟨d,e,c,[]⟩)).1 (nD _ (aZ (aV M fs ⟨d,e,c,[]⟩)).1 (nE (x:=aV M fs ⟨d,e,c,[]⟩) rfl)))
  rw[nH rfl];have p:=eO (x:=aV M fs ⟨d,e,c,l++[v]⟩) rfl;have o:eE (aV M fs ⟨d,e,c,l++[v]⟩) ⟨6,a,b⟩=cY (cY (aV M fs ⟨d,e,c,l⟩) v) v:=by
   show cY (cY (aZ _).2 (aZ _).1) (aZ _).1=_;rw[p];rfl
  rw[o];show Rl (oM M fs _ (match cM M.objs ⟨d,e,c,l⟩ v with
   | .ok (_,g)=>dV M.objs g M.said v
   | .error o=>.error o) a) _
  by_cases m:l.length < 4
  ·rw[nC (x:=aV M fs ⟨d,e,c,l⟩) m];have t:cM M.objs ⟨d,e,c,l⟩ v=.ok (M.objs,⟨d,e,c,l++[v]⟩):=if_pos m;rw[t];exact jx (f:=⟨d,e,c,l++[v]⟩) rfl
  have t:cM M.objs ⟨d,e,c,l⟩ v=.error 0:=if_neg m;rw[t];refine Rl.stuck (nD _ _ ?_);rw[lB (by show 4<=l.length;omega)]
 ·have o:eE (aV M fs ⟨d,e,c,cA⟩) ⟨7,a,b⟩=Gf (aV M fs ⟨d,e,c,cA⟩) a:=rfl;rw[o];have bad:∀ x:Sx,(aF (aF x).2).2.st=true->(Gf x a).st=true:=λx m=>by
   unfold Gf;simp only;split
   ·exact nD _ _ m
   exact oE _ _ m
  rcases gj cA with rfl|⟨E,i,rfl⟩
  ·rw[nI rfl Z];exact Rl.stuck (bad _ (jZ _ (iU (x:=aV M fs ⟨d,e,c,[]⟩) rfl)))
  rcases gj E with rfl|⟨l,h,rfl⟩
  ·rw[nI rfl Z];refine Rl.stuck (bad _ ?_);cases j:i.ref with
   | true=>exact jZ _ (e8 (x:=aV M fs ⟨d,e,c,[]++[i]⟩) rfl j)
   | false=>rw[fW (x:=aV M fs ⟨d,e,c,[]++[i]⟩) rfl j];exact iU rfl
  rw[List.append_assoc];have D:l++([h]++[i])=l++[h,i]:=rfl;rw[D,C4 rfl];have w:(aV M fs ⟨d,e,c,l++[h,i]⟩).f.stack=(l++[h])++[i]:=by simp[aV]
  cases j:i.ref with
  | true =>
   rw[if_neg (by simp[gA,j])];exact Rl.stuck (bad _ (jZ _ (e8 w j)))
  | false =>
   cases s:h.ref with
   | true =>
    rw[if_neg (by simp[gA,s])];refine Rl.stuck (bad _ ?_);rw[fW w j];exact e8 (l:=l) (v:=h) rfl s
   | false =>
    rw[if_pos (by simp[gA,j,s])];have y:=fW w j;have z:aF (aF (aV M fs ⟨d,e,c,l++[h,i]⟩)).2=(h.n,aV M fs ⟨d,e,c,l⟩):=by
     rw[y];exact fW (l:=l) (v:=h) rfl s
    have A:Gf (aV M fs ⟨d,e,c,l++[h,i]⟩) a=if (fJ a h.n i.n).2=true then cY (aV M fs ⟨d,e,c,l⟩) ⟨false,(fJ a h.n i.n).1⟩else cz (aV M fs ⟨d,e,c,l⟩) 1:=by
     unfold Gf;simp only[z];rw[y]
    rw[A];show Rl (oM M fs _ (if (fJ a h.n i.n).2 then dV M.objs ⟨d,e,c,l⟩ M.said ⟨false,(fJ a h.n i.n).1⟩else .error 1) a) _;by_cases q:(fJ a h.n i.n).2=true
    ·rw[if_pos q,if_pos q];exact jx (f:=⟨d,e,c,l++[h,i]⟩) rfl
    rw[if_neg q,if_neg q];exact Rl.Gs (by decide) rfl rfl
 have o:eE (aV M fs ⟨d,e,c,cA⟩) ⟨24,a,b⟩=if (aF (aV M fs ⟨d,e,c,cA⟩)).2.st=false then { (aF (aV M fs ⟨d,e,c,cA⟩)).2 with said:=(aF (aV M fs ⟨d,e,c,cA⟩)).2.said++[(aF (aV M fs ⟨d,e,c,cA⟩)).1]}else (aF (aV M fs ⟨d,e,c,cA⟩)).2:=rfl
 rw[o];rcases gj cA with rfl|⟨l,v,rfl⟩
 ·have m:=iU (x:=aV M fs ⟨d,e,c,[]⟩) rfl;rw[j0 rfl,if_neg (by rw[m];simp)];exact Rl.stuck m
 rw[nH rfl];cases j:v.ref with
 | true =>
  have m:=e8 (x:=aV M fs ⟨d,e,c,l++[v]⟩) rfl j;rw[if_neg (by simp[gA,j]),if_neg (by rw[m];simp)];exact Rl.stuck m
 | false =>
  rw[if_pos (by simp[gA,j]),fW (x:=aV M fs ⟨d,e,c,l++[v]⟩) rfl j];exact Rl.ok rfl
def qP (r:tw) (a:List Int):HW:=match r with
 | .ok (o,g)=>.ok (o,g,a,false)
 | .error e=>.error e
theorem zO {u:aS} {k a b:Int} {d:List Vl} {objs:List Ob} {f:bL} {c:List Int} (h:12<=k/\k<=19):eF u ⟨k,a,b⟩ d objs f c=qP (bt u ⟨k,a,b⟩ d objs f) c:=by
 unfold eF;simp only;repeat rw[if_neg O]
 rfl
theorem Gv {M:bH} {fs:List bL} {f:bL} {x:Sx} {o:Ob} {a:Int} {cA:List Vl} (c:x=aV M fs {f with stack:=cA}) :
  Rl (oM M fs f (qP (cM (M.objs++[o]) {f with stack:=cA} ⟨true,M.objs.length+1⟩) M.said) a) (eH (gQ x o)).res:=by
 subst c;have b:gQ (aV M fs {f with stack:=cA}) o=cY {aV M fs {f with stack:=cA}with objs:=M.objs++[o]} ⟨true,M.objs.length+1⟩:=by
  unfold gQ;rw[if_neg (by simp[Sx.bad,aV])];rfl
 rw[b];by_cases h:cA.length < 4
 ·rw[nC h];have:cM (M.objs++[o]) {f with stack:=cA} ⟨true,M.objs.length+1⟩=.ok (M.objs++[o],{f with stack:=cA++[⟨true,M.objs.length+1⟩]}):=if_pos h;rw[this];exact Rl.ok rfl
 rw[lB (by show 4<=cA.length;omega)];have:cM (M.objs++[o]) {f with stack:=cA} ⟨true,M.objs.length+1⟩=.error 0:=if_neg h;rw[this];exact Rl.stuck rfl
theorem Gw {x:Sx} {o:Ob} (h:x.bad):gQ x o=x:=if_pos h
theorem uN {u:aS} {x:Sx} {k:Int} (a:¬x.bad):bw u x 0 k=cz x 2:=by unfold bw;rw[if_neg a,if_pos rfl]
theorem uO {u:aS} {x:Sx} {n k:Int} (a:¬x.bad) (c:n≠0) (b:eG u (aK x.objs n).cls k=true):bw u x n k = {x with st:=true}:=by unfold bw;rw[if_neg a,if_neg c,if_pos b]
theorem sr {u:aS} {x:Sx} {n k:Int} (a:¬x.bad) (c:n≠0) (b:eG u (aK x.objs n).cls k=false):bw u x n k=x:=by unfold bw;rw[if_neg a,if_neg c,if_neg (by rw[b];simp)]
def wL (u:aS) (x:Sx) (n w k:Int) (set:Bool) (v:Vl):Sx :=
 if (bw u x n (-1-k)).bad then bw u x n (-1-k)else if ¬(0<=w/\w < (aK (bw u x n (-1-k)).objs n).bp.length)then cz (bw u x n (-1-k)) 3
 else if set=true then DY (bw u x n (-1-k)) n w v else cY (bw u x n (-1-k)) ((aK (bw u x n (-1-k)).objs n).bp.getD w.toNat cE)
theorem ic {u:aS} {x:Sx} {n w k:Int} {set:Bool} {v:Vl} (h:x.st=true):(wL u x n w k set v).st=true:=by
 have a:=wK u x n (-1-k) h;unfold wL;rw[if_pos (.inl a)];exact a
theorem MC (M:bH) (fs:List bL) (f:bL):¬(aV M fs f).bad:=by simp[Sx.bad,aV]
theorem C5 {u:aS} {M:bH} {fs:List bL} {f:bL} {x:Sx} {k w a:Int} {b v:Vl} {cA:List Vl} {set:Bool} (m:x=aV M fs {f with stack:=cA}) (q:k=0\/k=1) (s:0<=b.n) :
  Rl (oM M fs f (qP (match mz M.objs b k w with
   | .error e=>.error e
   | .ok o=>if set=true then .ok (fA M.objs b.n (putAt o.bp w v),{f with stack:=cA})else cM M.objs {f with stack:=cA} (o.bp.getD w.toNat cE)) M.said) a) (eH (wL u x b.n w k set v)).res:=by
 subst m;have g:=MC M fs {f with stack:=cA};unfold wL;by_cases d:b.n=0
 ·rw[uA d,d,uN g];have:(cz (aV M fs {f with stack:=cA}) 2).bad:=.inr (by show(0:Int) < 2;decide);rw[if_pos this];exact Rl.Gs (by decide) rfl rfl
 have i:0 < b.n:=by omega
 have p:eG u (aK M.objs b.n).cls (-1-k) = !decide ((aK M.objs b.n).cls=mw k):=by
  unfold eG mw;rcases q with rfl|rfl<;>simp
 by_cases c:(aK M.objs b.n).cls=mw k
 ·rw[sr g d (by show eG u (aK M.objs b.n).cls (-1-k)=false;rw[p];simp[c]),if_neg g];by_cases h:0<=w/\w < (aK M.objs b.n).bp.length
  ·have j:0<=w/\w < (aK (aV M fs {f with stack:=cA}).objs b.n).bp.length:=h;rw[xR i c h,if_neg (λm=>m j)];cases set with
   | true=>exact Rl.ok rfl
   | false =>
    have e:qP (cM M.objs {f with stack:=cA} ((aK M.objs b.n).bp.getD w.toNat cE)) M.said=dV M.objs {f with stack:=cA} M.said ((aK M.objs b.n).bp.getD w.toNat cE):=rfl;simp only[Bool.false_eq_true,if_false];rw[e];exact jx rfl
  have j:¬(0<=w/\w < (aK (aV M fs {f with stack:=cA}).objs b.n).bp.length):=h;rw[pG i c h,if_pos j];exact Rl.Gs (by decide) rfl rfl
 rw[uz i c,uO g d (by show eG u (aK M.objs b.n).cls (-1-k)=true;rw[p];simp[c]),if_pos (.inl rfl)];exact Rl.stuck rfl
def su (u:aS) (x:Sx) (n k i:Int) (set:Bool) (v:Vl):Sx :=
 if (bw u x n k).bad then bw u x n k else if set=true then DY (bw u x n k) n i v else cY (bw u x n k) ((aK (bw u x n k).objs n).bp.getD i.toNat cE)
theorem lD {u:aS} {x:Sx} {n i k:Int} {set:Bool} {v:Vl} (h:x.st=true):(su u x n k i set v).st=true:=by
 have a:=wK u x n k h;unfold su;rw[if_pos (.inl a)];exact a
theorem zP {u:aS} {M:bH} {fs:List bL} {f:bL} {x:Sx} {k i a:Int} {b v:Vl} {cA:List Vl} {set:Bool} (p:x=aV M fs {f with stack:=cA}) (m:0<=k) (q:0<=b.n) :
  Rl (oM M fs f (qP (match dJ M.objs b.n (up u.aq (aK M.objs b.n).cls k)with
   | .error e=>.error e
   | .ok o=>if set=true then .ok (fA M.objs b.n (putAt o.bp i v),{f with stack:=cA})else cM M.objs {f with stack:=cA} (o.bp.getD i.toNat cE)) M.said) a) (eH (su u x b.n k i set v)).res:=by
 subst p;have d:=MC M fs {f with stack:=cA};unfold su;by_cases c:b.n=0
 ·rw[eU c,c,uN d];have:(cz (aV M fs {f with stack:=cA}) 2).bad:=.inr (by show(0:Int) < 2;decide);rw[if_pos this];exact Rl.Gs (by decide) rfl rfl
 have h:0 < b.n:=by omega
 have j:eG u (aK M.objs b.n).cls k = !up u.aq (aK M.objs b.n).cls k:=by
  unfold eG;cases g:up u.aq (aK M.objs b.n).cls k with
  | true =>
   have:=jc g;simp[show ¬k < 0 by omega,this]
  | false=>simp[m]
 cases g:up u.aq (aK M.objs b.n).cls k with
 | true =>
  rw[sr d c (by show eG u (aK M.objs b.n).cls k=false;rw[j,g];rfl),if_neg d,fe h rfl];cases set with
  | true=>exact Rl.ok rfl
  | false =>
   have e:qP (cM M.objs {f with stack:=cA} ((aK M.objs b.n).bp.getD i.toNat cE)) M.said=dV M.objs {f with stack:=cA} M.said ((aK M.objs b.n).bp.getD i.toNat cE):=rfl;simp only[Bool.false_eq_true,if_false];rw[e];exact jx rfl
 | false =>
  rw[uO d c (by show eG u (aK M.objs b.n).cls k=true;rw[j,g];rfl),if_pos (.inl rfl),eT h rfl];exact Rl.stuck rfl
theorem D4 (u:aS) (M:bH) (fs:List bL) (f:bL) (k a b:Int) (N:12<=k/\k<=19) (z:∀ v∈f.stack,iR M.objs.length v) (J:k=13\/k=15\/k=16->a=0\/a=1) (K:k=12\/k=17\/k=18\/k=19->0<=a) :
  Rl (match dz u ⟨k,a,b⟩ f.stack with
   | none=>.error 0
   | some (eB,rest)=>oM M fs f (eF u ⟨k,a,b⟩ eB M.objs {f with stack:=rest} M.said) a) (nJ u (aV M fs f) ⟨k,a,b⟩):=by
 simp only[zO N];unfold nJ;rw[Gt N];obtain⟨d,e,c,cA⟩:=f;simp only at z ⊢;have R:k=12\/k=13\/k=14\/k=15\/k=16\/k=17\/k=18\/k=19:=by omega
 rcases R with rfl|rfl|rfl|rfl|rfl|rfl|rfl|rfl
 ·rw[zM rfl];exact Gv (f:=⟨d,e,c,cA⟩) rfl
 ·
  have m:∀ x:Sx,fM u x ⟨13,a,b⟩=kG x a:=λx=>rfl;rw[m];have bad:∀ x:Sx,(aF x).2.st=true->(kG x a).st=true:=λx t=>by
   unfold kG;refine Gr _ _ ?_;split
   ·exact t
   exact oE _ _ t
  rcases gj cA with rfl|⟨l,v,rfl⟩
  ·rw[j0 rfl];exact Rl.stuck (bad _ (iU (x:=aV M fs ⟨d,e,c,[]⟩) rfl))
  rw[nH rfl];cases g:v.ref with
  | true =>
   rw[if_neg (by simp[gA,g])];exact Rl.stuck (bad _ (e8 (x:=aV M fs ⟨d,e,c,l++[v]⟩) rfl g))
  | false =>
   rw[if_pos (by simp[gA,g])];have j:aF (aV M fs ⟨d,e,c,l++[v]⟩)=(v.n,aV M fs ⟨d,e,c,l⟩):=fW (x:=aV M fs ⟨d,e,c,l++[v]⟩) rfl g;have p:kG (aV M fs ⟨d,e,c,l++[v]⟩) a=gQ (if 0<=v.n/\v.n<=6 then aV M fs ⟨d,e,c,l⟩else cz (aV M fs ⟨d,e,c,l⟩) 4) (jS a v.n):=by
    unfold kG;rw[j]
   rw[p];have G:bt u ⟨13,a,b⟩ [v] M.objs ⟨d,e,c,l⟩=if 0<=v.n/\v.n<=6 then nq (mw a) (List.replicate v.n.toNat (if a=0 then 1 else 8)) M.objs ⟨d,e,c,l⟩else .error 4:=rfl
   show Rl (oM M fs _ (qP (bt u ⟨13,a,b⟩ [v] M.objs ⟨d,e,c,l⟩) M.said) a) _;rw[G];by_cases C:0<=v.n/\v.n<=6
   ·rw[if_pos C,if_pos C];have Q:(⟨mw a,(List.replicate v.n.toNat (if a=0 then 1 else 8)).map nothing⟩:Ob)=jS a v.n:=by
     unfold jS mw;have S:min v.n 6=v.n:=by omega
     rw[S];rcases J Z with rfl|rfl
     ·simp[nothing]
     simp[nothing]
    unfold nq;rw[Q];exact Gv (f:=⟨d,e,c,l++[v]⟩) rfl
   rw[if_neg C,if_neg C,Gw (.inr (by show(0:Int) < 4;decide))];exact Rl.Gs (by decide) rfl rfl
 ·
  have m:∀ x:Sx,fM u x ⟨14,a,b⟩=oV x:=λx=>rfl;rw[m];have bad:∀ x:Sx,(aI x).2.st=true->(oV x).st=true:=λx t=>by
   unfold oV;simp only;split
   ·rfl
   split
   ·exact oE _ _ t
   exact nD _ _ t
  rcases gj cA with rfl|⟨l,v,rfl⟩
  ·rw[j0 rfl];exact Rl.stuck (bad _ (kA (x:=aV M fs ⟨d,e,c,[]⟩) rfl))
  rw[nH rfl];have s:=z v Z;cases g:v.ref with
  | false =>
   rw[if_neg (by simp[gA,g])];exact Rl.stuck (bad _ (kB (x:=aV M fs ⟨d,e,c,l++[v]⟩) rfl g))
  | true =>
   rw[if_pos (by simp[gA,g])];have V:=s.1 g;have j:aI (aV M fs ⟨d,e,c,l++[v]⟩)=(v.n,aV M fs ⟨d,e,c,l⟩):=nG (x:=aV M fs ⟨d,e,c,l++[v]⟩) rfl g;have p:oV (aV M fs ⟨d,e,c,l++[v]⟩)=if 0 < v.n/\(aV M fs ⟨d,e,c,l⟩).st=false/\0<=(aK M.objs v.n).cls then {aV M fs ⟨d,e,c,l⟩with st:=true}else if v.n=0 then cz (aV M fs ⟨d,e,c,l⟩) 2 else cY (aV M fs ⟨d,e,c,l⟩) ⟨false,(aK M.objs v.n).bp.length⟩:=by
    unfold oV;simp only[j];rfl
   rw[p];show Rl (oM M fs _ (qP (match dJ M.objs v.n (decide ((aK M.objs v.n).cls < 0))with
    | .error P=>.error P
    | .ok T=>cM M.objs ⟨d,e,c,l⟩ ⟨false,T.bp.length⟩) M.said) a) _
   by_cases H:v.n=0
   ·rw[eU H,if_neg O,if_pos H];exact Rl.Gs (by decide) rfl rfl
   have I:0 < v.n:=by omega
   by_cases L:(aK M.objs v.n).cls < 0
   ·rw[fe I (by simp[L]),if_neg O,if_neg H];exact jx (f:=⟨d,e,c,l++[v]⟩) rfl
   rw[eT I (by simp[L]),if_pos ⟨I,rfl,O⟩];exact Rl.stuck rfl
 ·
  have m:∀ x:Sx,fM u x ⟨15,a,b⟩=wL u (aI (aF x).2).2 (aI (aF x).2).1 (aF x).1 a false cE:=λx=>rfl;rw[m];rcases gj cA with rfl|⟨w,i,rfl⟩
  ·rw[nI rfl Z];exact Rl.stuck (ic (kz _ (iU (x:=aV M fs ⟨d,e,c,[]⟩) rfl)))
  rcases gj w with rfl|⟨l,h,rfl⟩
  ·rw[nI rfl Z];refine Rl.stuck (ic ?_);cases g:i.ref with
   | true=>exact kz _ (e8 (x:=aV M fs ⟨d,e,c,[]++[i]⟩) rfl g)
   | false=>rw[fW (x:=aV M fs ⟨d,e,c,[]++[i]⟩) rfl g];exact kA rfl
  rw[List.append_assoc];have A:l++([h]++[i])=l++[h,i]:=rfl;rw[A,C4 rfl];have B:(aV M fs ⟨d,e,c,l++[h,i]⟩).f.stack=(l++[h])++[i]:=by simp[aV]
  have s:=z h Z;cases q:i.ref with
  | true =>
   rw[if_neg (by simp[gA,q])];exact Rl.stuck (ic (kz _ (e8 B q)))
  | false =>
   have j:=fW B q;cases o:h.ref with
   | false =>
    rw[if_neg (by simp[gA,o])];refine Rl.stuck (ic ?_);rw[j];exact kB (l:=l) (v:=h) rfl o
   | true =>
    rw[if_pos (by simp[gA,o,q])];have p:aI (aF (aV M fs ⟨d,e,c,l++[h,i]⟩)).2=(h.n,aV M fs ⟨d,e,c,l⟩):=by
     rw[j];exact nG (l:=l) (v:=h) rfl o
    rw[p,j];exact C5 (f:=⟨d,e,c,l++[h,i]⟩) (set:=false) (v:=cE) rfl (J Z) (s.1 o).1
 ·
  have m:∀ x:Sx,fM u x ⟨16,a,b⟩=wL u (aI (aF (aZ x).2).2).2 (aI (aF (aZ x).2).2).1 (aF (aZ x).2).1 a true (aZ x).1:=λx=>rfl;rw[m];rcases gj cA with rfl|⟨E,y,rfl⟩
  ·rw[BR rfl Z];exact Rl.stuck (ic (kz _ (jZ _ (nE (x:=aV M fs ⟨d,e,c,[]⟩) rfl))))
  have F:aZ (aV M fs ⟨d,e,c,E++[y]⟩)=(y,aV M fs ⟨d,e,c,E⟩):=eO (x:=aV M fs ⟨d,e,c,E++[y]⟩) rfl;rw[F];rcases gj E with rfl|⟨w,i,rfl⟩
  ·rw[BR rfl Z];exact Rl.stuck (ic (kz _ (iU (x:=aV M fs ⟨d,e,c,[]⟩) rfl)))
  rcases gj w with rfl|⟨l,h,rfl⟩
  ·rw[BR rfl Z];refine Rl.stuck (ic ?_);cases g:i.ref with
   | true=>exact kz _ (e8 (x:=aV M fs ⟨d,e,c,[]++[i]⟩) rfl g)
   | false=>rw[fW (x:=aV M fs ⟨d,e,c,[]++[i]⟩) rfl g];exact kA rfl
  have A:l++[h]++[i]++[y]=l++[h,i,y]:=by simp
  have s:=z h Z;rw[A,Pp rfl];have B:(aV M fs ⟨d,e,c,l++[h]++[i]⟩).f.stack=(l++[h])++[i]:=rfl;cases q:i.ref with
  | true =>
   rw[if_neg (by simp[gA,q])];exact Rl.stuck (ic (kz _ (e8 B q)))
  | false =>
   have j:=fW B q;cases o:h.ref with
   | false =>
    rw[if_neg (by simp[gA,o])];refine Rl.stuck (ic ?_);rw[j];exact kB (l:=l) (v:=h) rfl o
   | true =>
    rw[if_pos (by simp[gA,o,q])];have p:aI (aF (aV M fs ⟨d,e,c,l++[h]++[i]⟩)).2=(h.n,aV M fs ⟨d,e,c,l⟩):=by
     rw[j];exact nG (l:=l) (v:=h) rfl o
    rw[p,j];exact C5 (f:=⟨d,e,c,l++[h,i,y]⟩) (set:=true) (v:=y) rfl (J Z) (s.1 o).1
 ·
  have m:∀ x:Sx,fM u x ⟨17,a,b⟩=su u (aI x).2 (aI x).1 a b false cE:=λx=>rfl;rw[m];rcases gj cA with rfl|⟨l,v,rfl⟩
  ·rw[j0 rfl];exact Rl.stuck (lD (kA (x:=aV M fs ⟨d,e,c,[]⟩) rfl))
  rw[nH rfl];have s:=z v Z;cases g:v.ref with
  | false =>
   rw[if_neg (by simp[gA,g])];exact Rl.stuck (lD (kB (x:=aV M fs ⟨d,e,c,l++[v]⟩) rfl g))
  | true =>
   rw[if_pos (by simp[gA,g]),nG (x:=aV M fs ⟨d,e,c,l++[v]⟩) rfl g];exact zP (f:=⟨d,e,c,l++[v]⟩) (set:=false) (v:=cE) rfl (K Z) (s.1 g).1
 ·
  have m:∀ x:Sx,fM u x ⟨18,a,b⟩=su u (aI (aZ x).2).2 (aI (aZ x).2).1 a b true (aZ x).1:=λx=>rfl;rw[m];rcases gj cA with rfl|⟨w,i,rfl⟩
  ·rw[nI rfl Z];exact Rl.stuck (lD (kz _ (nE (x:=aV M fs ⟨d,e,c,[]⟩) rfl)))
  have F:aZ (aV M fs ⟨d,e,c,w++[i]⟩)=(i,aV M fs ⟨d,e,c,w⟩):=eO (x:=aV M fs ⟨d,e,c,w++[i]⟩) rfl;rw[F];rcases gj w with rfl|⟨l,h,rfl⟩
  ·rw[nI rfl Z];exact Rl.stuck (lD (kA (x:=aV M fs ⟨d,e,c,[]⟩) rfl))
  have A:l++[h]++[i]=l++[h,i]:=by simp
  have s:=z h Z;rw[A,C4 rfl];cases g:h.ref with
  | false =>
   rw[if_neg (by simp[gA,g])];exact Rl.stuck (lD (kB (x:=aV M fs ⟨d,e,c,l++[h]⟩) rfl g))
  | true =>
   rw[if_pos (by simp[gA,g]),nG (x:=aV M fs ⟨d,e,c,l++[h]⟩) rfl g];exact zP (f:=⟨d,e,c,l++[h,i]⟩) (set:=true) (v:=i) rfl (K Z) (s.1 g).1
 
 have m:∀ x:Sx,fM u x ⟨19,a,b⟩=oW u x a:=λx=>rfl;rw[m];have bad:∀ x:Sx,(aI x).2.st=true->(oW u x a).st=true:=λx t=>by
  unfold oW;simp only;rw[if_pos t];exact t
 rcases gj cA with rfl|⟨l,v,rfl⟩
 ·rw[j0 rfl];exact Rl.stuck (bad _ (kA (x:=aV M fs ⟨d,e,c,[]⟩) rfl))
 rw[nH rfl];cases g:v.ref with
 | false =>
  rw[if_neg (by simp[gA,g])];exact Rl.stuck (bad _ (kB (x:=aV M fs ⟨d,e,c,l++[v]⟩) rfl g))
 | true =>
  rw[if_pos (by simp[gA,g])];have j:aI (aV M fs ⟨d,e,c,l++[v]⟩)=(v.n,aV M fs ⟨d,e,c,l⟩):=nG (x:=aV M fs ⟨d,e,c,l++[v]⟩) rfl g;have p:oW u (aV M fs ⟨d,e,c,l++[v]⟩) a=if 0 < v.n/\gU u.aq (typeOf (aK M.objs v.n).cls) (8+a)=false then cz (aV M fs ⟨d,e,c,l⟩) 5 else cY (aV M fs ⟨d,e,c,l⟩) ⟨true,v.n⟩:=by
   unfold oW;simp only[j];rfl
  rw[p];have G:(⟨true,v.n⟩:Vl)=v:=by cases v;simp only at g;rw[g]
  show Rl (oM M fs _ (qP (if 0 < v.n/\gU u.aq (typeOf (aK M.objs v.n).cls) (8+a)=false then .error 5 else cM M.objs ⟨d,e,c,l⟩ v) M.said) a) _;by_cases D:0 < v.n/\gU u.aq (typeOf (aK M.objs v.n).cls) (8+a)=false
  ·rw[if_pos D,if_pos D];exact Rl.Gs (by decide) rfl rfl
  rw[if_neg D,if_neg D,G];exact jx (f:=⟨d,e,c,l++[v]⟩) rfl
theorem yf:∀(n:Nat) (l:List Vl),gA (List.replicate n 0) l=true
 | 0,_=>rfl
 | n+1,[]=>rfl
 | n+1,v::l=>by simp[List.replicate_succ,gA,yf n l]
def qQ (x:Sx) (i:dc):bH × Bool × Int:=if (ek (eH x) i).1=true then ({ (ek (eH x) i).2 with f:={ (ek (eH x) i).2.f with pc:=i.a} }:Sx).res else (ek (eH x) i).2.res
theorem C6 {x:Sx} {i:dc} (h:(ek (eH x) i).2.st=true):(qQ x i).2.1=true:=by
 unfold qQ;split<;>exact h
theorem I7 (u:aS) (M:bH) (fs:List bL) (f:bL) (k a b:Int) (I:8<=k/\k<=11) :
  Rl (match dz u ⟨k,a,b⟩ f.stack with
   | none=>.error 0
   | some (eB,rest)=>oM M fs f (eF u ⟨k,a,b⟩ eB M.objs {f with stack:=rest} M.said) a) (qQ (aV M fs f) ⟨k,a,b⟩):=by
 obtain⟨d,e,c,cA⟩:=f;simp only;have t:eH (aV M fs ⟨d,e,c,cA⟩)=aV M fs ⟨d,e+1,c,cA⟩:=rfl;have fin:∀(o:Bool) (l:List Vl),ek (eH (aV M fs ⟨d,e,c,cA⟩)) ⟨k,a,b⟩=(o,aV M fs ⟨d,e+1,c,l⟩)->Rl (oM M fs ⟨d,e,c,cA⟩ (.ok (M.objs,⟨d,e,c,l⟩,M.said,o)) a) (qQ (aV M fs ⟨d,e,c,cA⟩) ⟨k,a,b⟩):=by
  intro o l j;unfold qQ;rw[j];cases o with
  | true=>exact Rl.ok rfl
  | false=>exact Rl.ok rfl
 have two:∀(y:Int->Int->Bool),(∀ x:Sx,ek x ⟨k,a,b⟩=(y (aF (aF x).2).1 (aF x).1,(aF (aF x).2).2))->cI u ⟨k,a,b⟩=some [1,1]->(∀ h g B f C,eF u ⟨k,a,b⟩ [h,g] B f C=.ok (B,f,C,y h.n g.n)) ->
   Rl (match dz u ⟨k,a,b⟩ cA with
    | none=>.error 0
    | some (eB,rest)=>oM M fs ⟨d,e,c,cA⟩ (eF u ⟨k,a,b⟩ eB M.objs ⟨d,e,c,rest⟩ M.said) a) (qQ (aV M fs ⟨d,e,c,cA⟩) ⟨k,a,b⟩):=by
  intro y m w G;have bad:(aF (aF (aV M fs ⟨d,e+1,c,cA⟩)).2).2.st=true->(qQ (aV M fs ⟨d,e,c,cA⟩) ⟨k,a,b⟩).2.1=true:=λj=>C6 (by rw[t,m];exact j);rcases gj cA with rfl|⟨H,g,rfl⟩
  ·rw[nI w Z];exact Rl.stuck (bad (jZ _ (iU rfl)))
  rcases gj H with rfl|⟨l,h,rfl⟩
  ·rw[nI w Z];refine Rl.stuck (bad ?_);cases i:g.ref with
   | true=>exact jZ _ (e8 (l:=[]) (v:=g) rfl i)
   | false=>rw[fW (x:=aV M fs ⟨d,e+1,c,[]++[g]⟩) (l:=[]) (v:=g) rfl i];exact iU rfl
  have F:l++[h]++[g]=l++[h,g]:=by simp
  rw[F]at bad fin ⊢;rw[C4 w];have A:(aV M fs ⟨d,e+1,c,l++[h,g]⟩).f.stack=(l++[h])++[g]:=by simp[aV]
  cases q:g.ref with
  | true =>
   rw[if_neg (by simp[gA,q])];exact Rl.stuck (bad (jZ _ (e8 A q)))
  | false =>
   have s:=fW A q;cases p:h.ref with
   | true =>
    rw[if_neg (by simp[gA,p])];refine Rl.stuck (bad ?_);rw[s];exact e8 (l:=l) (v:=h) rfl p
   | false =>
    rw[if_pos (by simp[gA,p,q])];show Rl (oM M fs _ (eF u ⟨k,a,b⟩ [h,g] M.objs ⟨d,e,c,l⟩ M.said) a) _;rw[G];refine fin _ l ?_;rw[show eH (aV M fs ⟨d,e,c,l++[h,g]⟩)=aV M fs ⟨d,e+1,c,l++[h,g]⟩from rfl,m];have D:aF (aF (aV M fs ⟨d,e+1,c,l++[h,g]⟩)).2=(h.n,aV M fs ⟨d,e+1,c,l⟩):=by
     rw[s];exact fW (l:=l) (v:=h) rfl p
    rw[D,s]
 have E:k=8\/k=9\/k=10\/k=11:=by omega
 rcases E with rfl|rfl|rfl|rfl
 ·exact two (λx z=>decide (x < z)) (λ_=>rfl) rfl (λ_ _ _ _ _=>rfl)
 ·exact two (λx z=>decide (x=z)) (λ_=>rfl) rfl (λ_ _ _ _ _=>rfl)
 ·have m:∀ x:Sx,ek x ⟨10,a,b⟩=(decide ((aI x).1=0),(aI x).2):=λ_=>rfl;have bad:(aI (aV M fs ⟨d,e+1,c,cA⟩)).2.st=true->(qQ (aV M fs ⟨d,e,c,cA⟩) ⟨10,a,b⟩).2.1=true:=λj=>C6 (by rw[t,m];exact j);rcases gj cA with rfl|⟨l,v,rfl⟩
  ·rw[j0 rfl];exact Rl.stuck (bad (kA rfl))
  rw[nH rfl];cases i:v.ref with
  | false =>
   rw[if_neg (by simp[gA,i])];exact Rl.stuck (bad (kB (l:=l) (v:=v) rfl i))
  | true =>
   rw[if_pos (by simp[gA,i])];refine fin (decide (v.n=0)) l ?_;rw[t,m,nG (x:=aV M fs ⟨d,e+1,c,l++[v]⟩) (l:=l) (v:=v) rfl i];rfl
 rw[zM rfl];exact fin true cA rfl
theorem I8 (u:aS) (M:bH) (fs:List bL) (f:bL) (a b:Int) :
  Rl (match dz u ⟨22,a,b⟩ f.stack with
   | none=>.error 0
   | some (eB,rest)=>eN u ⟨22,a,b⟩ eB fs {M with au:=fs++[{f with stack:=rest}]}) (s4 (aV M fs f)):=by
 obtain⟨d,e,c,cA⟩:=f;simp only;rcases gj cA with rfl|⟨l,v,rfl⟩
 ·rw[j0 rfl];unfold s4;have j:=nE (x:=aV M fs ⟨d,e,c,[]⟩) rfl;simp only;rw[if_pos j];exact Rl.stuck j
 rw[nH rfl];unfold s4;have m:aZ (aV M fs ⟨d,e,c,l++[v]⟩)=(v,aV M fs ⟨d,e,c,l⟩):=eO (x:=aV M fs ⟨d,e,c,l++[v]⟩) rfl;rw[m,if_pos (by simp[gA])];simp only;rw[if_neg (by simp[aV])];show Rl (lq v fs {M with au:=fs++[⟨d,e,c,l⟩]}) (match fs.getLast? with
  | none=>_
  | some g=>_)
 rcases List.eq_nil_or_concat fs with rfl|⟨h,g,rfl⟩
 ·exact Rl.ok rfl
 rw[List.concat_eq_append,oy];have p:(h++[g]).getLast? = some g:=by simp
 have o:(h++[g]).dropLast=h:=by simp
 rw[p];simp only;by_cases i:g.stack.length < 4
 ·rw[if_pos i,nC (x:={aV M (h++[g]) ⟨d,e,c,l⟩with fs:=(aV M (h++[g]) ⟨d,e,c,l⟩).fs.dropLast,f:=g}) i];refine Rl.ok ?_;simp only[aV,Sx.res,Sx.x5,o]
 rw[if_neg i,lB (x:={aV M (h++[g]) ⟨d,e,c,l⟩with fs:=(aV M (h++[g]) ⟨d,e,c,l⟩).fs.dropLast,f:=g}) (by show 4<=g.stack.length;omega)];exact Rl.stuck rfl
theorem Gx (u:aS) (M:bH) (fs:List bL) (f:bL) (a b:Int) (o:∀ v∈f.stack,iR M.objs.length v) :
  Rl (match dz u ⟨23,a,b⟩ f.stack with
   | none=>.error 0
   | some (eB,rest)=>eN u ⟨23,a,b⟩ eB fs {M with au:=fs++[{f with stack:=rest}]})
   (if (aI (aV M fs f)).1=0 then (cz (aI (aV M fs f)).2 2).res else if (aI (aV M fs f)).2.st=false then jW u (aI (aV M fs f)).1 (aI (aV M fs f)).2.x5 (aI (aV M fs f)).2.st (aI (aV M fs f)).2.ft else (aI (aV M fs f)).2.res):=by
 obtain⟨e,g,d,cA⟩:=f;simp only at o ⊢;have bad:∀ x:Sx,(aI x).2.st=true->Rl (.error 0) (if (aI x).1=0 then (cz (aI x).2 2).res else if (aI x).2.st=false then jW u (aI x).1 (aI x).2.x5 (aI x).2.st (aI x).2.ft else (aI x).2.res):=by
  intro x h;split
  ·exact Rl.stuck (oE _ _ h)
  rw[if_neg (by rw[h];simp)];exact Rl.stuck h
 rcases gj cA with rfl|⟨l,v,rfl⟩
 ·rw[j0 rfl];exact bad _ (kA rfl)
 rw[nH rfl];have s:=o v Z;cases c:v.ref with
 | false =>
  rw[if_neg (by simp[gA,c])];exact bad _ (kB (l:=l) (v:=v) rfl c)
 | true =>
  rw[if_pos (by simp[gA,c])];have t:=s.1 c;have q:aI (aV M fs ⟨e,g,d,l++[v]⟩)=(v.n,aV M fs ⟨e,g,d,l⟩):=nG (x:=aV M fs ⟨e,g,d,l++[v]⟩) rfl c;rw[q];show Rl (match dJ M.objs v.n (up u.aq (aK M.objs v.n).cls 1)with
   | .error p=>.error p
   | .ok _=>.ok (bU u v.n {M with au:=fs++[⟨e,g,d,l⟩]})) _
  simp only;by_cases i:v.n=0
  ·rw[eU i,if_pos i];exact Rl.Gs (by decide) rfl rfl
  have m:0 < v.n:=by omega
  rw[if_neg i,if_pos (show(aV M fs ⟨e,g,d,l⟩).st=false from rfl)];unfold jW;cases j:up u.aq (aK M.objs v.n).cls 1 with
  | true =>
   have:=jc j;rw[fe m rfl,if_neg (by
    show ¬((aK M.objs v.n).cls < 0\/up u.aq (aK M.objs v.n).cls 1=false);rw[j];simp;omega)]
   exact Rl.ok rfl
  | false =>
   rw[eT m rfl,if_pos (.inr j)];exact Rl.stuck rfl
theorem I9 (u:aS) (M:bH) (fs:List bL) (f:bL) (a b:Int) (i:fs.length+1<=4) :
  Rl (match dz u ⟨20,a,b⟩ f.stack with
   | none=>.error 0
   | some (eB,rest)=>eN u ⟨20,a,b⟩ eB fs {M with au:=fs++[{f with stack:=rest}]}) (iu u (aV M fs f) ⟨20,a,b⟩):=by
 have c:cr u ⟨20,a,b⟩=(aY u a).args.length:=rfl;have h:cI u ⟨20,a,b⟩=some (List.replicate (aY u a).args.length 0):=rfl;unfold dz;rw[h];simp only[List.length_replicate];by_cases e:f.stack.length < (aY u a).args.length
 ·rw[if_pos e];unfold iu;rw[if_pos (.inr (by rw[c];show(f.stack.length:Int) < _;omega))];exact Rl.stuck rfl
 rw[if_neg e,if_pos (yf _ _)];have g:¬(cr u ⟨20,a,b⟩ < 0\/((aV M fs f).f.stack.length:Int) < cr u ⟨20,a,b⟩):=by
  rw[c];show ¬(((aY u a).args.length:Int) < 0\/(f.stack.length:Int) < (aY u a).args.length);omega
 rw[zJ g,c];show Rl (eZ u a _ _) _;unfold eZ;by_cases d:fs.length+1=4
 ·rw[if_pos (by simp;omega),if_pos (show(aV M fs f).fs.length+1=4 from d)];exact Rl.Gs (by decide) rfl rfl
 rw[if_neg (by simp;omega),if_neg (show ¬(aV M fs f).fs.length+1=4 from d)];exact Rl.ok rfl
theorem Ja (u:aS) (M:bH) (fs:List bL) (f:bL) (a b:Int) (I:fs.length+1<=4) (y:0<=a) (E:∀ v∈f.stack,iR M.objs.length v) :
  Rl (match dz u ⟨21,a,b⟩ f.stack with
   | none=>.error 0
   | some (eB,rest)=>eN u ⟨21,a,b⟩ eB fs {M with au:=fs++[{f with stack:=rest}]}) (iu u (aV M fs f) ⟨21,a,b⟩):=by
 have d:cr u ⟨21,a,b⟩=if 0<=find u a b then ((aY u (find u a b)).args.length:Int)+1 else -1:=rfl
 have D:cI u ⟨21,a,b⟩=if find u a b < 0 then none else some (2::List.replicate (aY u (find u a b)).args.length 0):=rfl
 unfold dz;rw[D];by_cases s:find u a b < 0
 ·rw[if_pos s];rw[if_neg O]at d;unfold iu;rw[if_pos (.inl (by rw[d];decide))];exact Rl.stuck rfl
 rw[if_neg s];rw[if_pos O]at d;simp only[List.length_cons,List.length_replicate];generalize J:(aY u (find u a b)).args.length=n at d ⊢;by_cases t:f.stack.length < n+1
 ·rw[if_pos t];unfold iu;rw[if_pos (.inr (by rw[d];show(f.stack.length:Int) < _;omega))];exact Rl.stuck rfl
 rw[if_neg t];have C:¬(cr u ⟨21,a,b⟩ < 0\/((aV M fs f).f.stack.length:Int) < cr u ⟨21,a,b⟩):=by
  rw[d];show ¬((n:Int)+1 < 0\/(f.stack.length:Int) < (n:Int)+1);omega
 have w:(aV M fs f).f.stack.length-(cr u ⟨21,a,b⟩).toNat=f.stack.length-(n+1):=by rw[d];rfl
 obtain⟨c,r,e⟩:∃ c r,f.stack.drop (f.stack.length-(n+1))=c::r:=by
  cases z:f.stack.drop (f.stack.length-(n+1))with
  | nil=>have:=congrArg List.length z;simp at this;omega
  | cons c r=>exact⟨c,r,rfl⟩
 have B:((aV M fs f).f.stack.drop ((aV M fs f).f.stack.length-(cr u ⟨21,a,b⟩).toNat)).getD 0 cE=c:=by
  rw[w];show(f.stack.drop _).getD 0 cE=c;rw[e];rfl
 have q:=zK C B;rw[w]at q;rw[q];have F:c∈f.stack:=by
  have:c∈f.stack.drop (f.stack.length-(n+1)):=by rw[e];simp
  exact List.mem_of_mem_drop this
 have G:=E c F;have h:=MC M fs f;cases j:c.ref with
 | false =>
  rw[if_neg (by rw[e];simp[gA,j]),if_pos rfl];exact Rl.stuck rfl
 | true =>
  have K:=G.1 j;rw[if_pos (by rw[e];simp[gA,j,yf]),if_neg Z];show Rl (match dJ M.objs ((f.stack.drop (f.stack.length-(n+1))).getD 0 cE).n (up u.aq (aK M.objs ((f.stack.drop (f.stack.length-(n+1))).getD 0 cE).n).cls a)with
   | .error x=>.error x
   | .ok H=>eZ u (find u H.cls b) (f.stack.drop (f.stack.length-(n+1))) {M with au:=fs++[{f with stack:=f.stack.take (f.stack.length-(n+1))}]}) _
  have A:(f.stack.drop (f.stack.length-(n+1))).getD 0 cE=c:=by rw[e];rfl
  rw[A];by_cases g:c.n=0
  ·rw[eU g,g,uN h,if_pos (.inr (by show(0:Int) < 2;decide))];exact Rl.Gs (by decide) rfl rfl
  have m:0 < c.n:=by omega
  have p:eG u (aK M.objs c.n).cls a = !up u.aq (aK M.objs c.n).cls a:=by
   unfold eG;cases i:up u.aq (aK M.objs c.n).cls a with
   | true =>
    have:=jc i;simp[show ¬a < 0 by omega,this]
   | false=>simp[y]
  cases i:up u.aq (aK M.objs c.n).cls a with
  | true =>
   rw[sr h g (by show eG u (aK M.objs c.n).cls a=false;rw[p,i];rfl),if_neg h,fe m rfl];show Rl (eZ u _ _ _) _;unfold eZ;by_cases o:fs.length+1=4
   ·rw[if_pos (by simp;omega),if_pos (show(aV M fs f).fs.length+1=4 from o)];exact Rl.Gs (by decide) rfl rfl
   rw[if_neg (by simp;omega),if_neg (show ¬(aV M fs f).fs.length+1=4 from o)];exact Rl.ok rfl
  | false =>
   rw[uO h g (by show eG u (aK M.objs c.n).cls a=true;rw[p,i];rfl),if_pos (.inl rfl),eT m rfl];exact Rl.stuck rfl
def Jb (u:aS) (M:bH) (fs:List bL) (f:bL):bH × Bool × Int :=
 if f.pc=(aY u f.aC).code.length then (M,true,0)else uL u (aV M fs f) ((aY u f.aC).code.getD f.pc.toNat dj)
theorem Jc (u:aS) (M:bH) (fs:List bL) (f:bL) (B:cC u) (h:mE u M) (j:M.au=fs++[f]):Rl (ig u fs f M) (Jb u M fs f):=by
 have d:=h.gh f (by rw[j];simp);have m:fs.length+1<=4:=by have:=h.nf;rw[j]at this;simpa using this
 unfold Jb;by_cases s:f.pc=(aY u f.aC).code.length
 ·rw[if_pos s];unfold ig;simp only;rw[if_pos O];exact Rl.stuck rfl
 rw[if_neg s];have I:=d.2.1;have o:f.pc.toNat < (aY u f.aC).code.length:=by omega
 have D:(aY u f.aC).code.getD f.pc.toNat dj=(aY u f.aC).code[f.pc.toNat]:=by simp[o]
 have c:=(B.aY d.1).2.1.2.2.2.1 _ (List.getElem_mem o);rw[<-D]at c;have w:ig u fs f M=match dz u ((aY u f.aC).code.getD f.pc.toNat dj) f.stack with
  | none=>.error 0
  | some (eB,rest)=>if 20<=((aY u f.aC).code.getD f.pc.toNat dj).kind/\((aY u f.aC).code.getD f.pc.toNat dj).kind<=23 then eN u ((aY u f.aC).code.getD f.pc.toNat dj) eB fs {M with au:=fs++[{f with stack:=rest}]}
   else oM M fs f (eF u ((aY u f.aC).code.getD f.pc.toNat dj) eB M.objs {f with stack:=rest} M.said) ((aY u f.aC).code.getD f.pc.toNat dj).a:=by
  unfold ig;simp only;rw[if_neg O];rfl
 rw[w];generalize (aY u f.aC).code.getD f.pc.toNat dj=H at c ⊢;obtain⟨k,a,b⟩:=H;simp only;have g:=d.2.2.2.2.2;have A:uL u (aV M fs f) ⟨k,a,b⟩=if k=22 then s4 (aV M fs f)
  else if k=20\/k=21 then iu u (aV M fs f) ⟨k,a,b⟩
  else if k=23 then (if (aI (aV M fs f)).1=0 then (cz (aI (aV M fs f)).2 2).res else if (aI (aV M fs f)).2.st=false then jW u (aI (aV M fs f)).1 (aI (aV M fs f)).2.x5 (aI (aV M fs f)).2.st (aI (aV M fs f)).2.ft else (aI (aV M fs f)).2.res)
  else if 8<=k/\k<=11 then qQ (aV M fs f) ⟨k,a,b⟩
  else nJ u (aV M fs f) ⟨k,a,b⟩:=rfl
 rw[A];by_cases t:k=22
 ·subst t;rw[if_pos rfl];simp only[show(20:Int)<=22/\(22:Int)<=23 from by decide,and_self,if_true];exact I8 u M fs f a b
 rw[if_neg t];by_cases E:k=20
 ·subst E;rw[if_pos (.inl rfl)];simp only[show(20:Int)<=20/\(20:Int)<=23 from by decide,and_self,if_true];exact I9 u M fs f a b m
 by_cases F:k=21
 ·subst F;have:=(aL (p:=5) (q:=9) rfl).1 c;simp[br]at this;rw[if_pos (.inr rfl)];simp only[show(20:Int)<=21/\(21:Int)<=23 from by decide,and_self,if_true];exact Ja u M fs f a b m this.1.1 g
 rw[if_neg O];by_cases v:k=23
 ·subst v;rw[if_pos rfl];simp only[show(20:Int)<=23/\(23:Int)<=23 from by decide,and_self,if_true];exact Gx u M fs f a b g
 rw[if_neg v];have z:¬(20<=k/\k<=23):=by omega
 simp only[z,if_false];by_cases i:8<=k/\k<=11
 ·rw[if_pos i];exact I7 u M fs f k a b i
 rw[if_neg i];by_cases G:12<=k/\k<=19
 ·refine D4 u M fs f k a b G g (λe=>?_) (λe=>?_)
  ·rcases e with rfl|rfl|rfl;all_goals
    have:=(aL (p:=6) (q:=0) rfl).1 c;simp[br]at this;exact this.1
  exact(c.sn.1 e).1
 have x:k=1\/k=2\/k=3\/k=4\/k=5\/k=6\/k=7\/k=24:=by
  obtain⟨p,q,C,_⟩:=c;have y:=rT C;simp only[ir,dZ,List.mem_cons,List.not_mem_nil,or_false,Prod.mk.injEq]at y;omega
 exact Gu u M fs f k a b x
theorem XM.made {h d e:Heap} {mc:List Value} {M:bH} {B:List Nat} {a:Nat} {t:TypeId} {g:List Value} {u:aS} (own:eX d mc M B) (nd:Nd B) (s:∀ b∈B,h b=none) (m:h.le d) (f:d a=none) (o:d.le e)
  (v:e a=some (.cells (g++mc++[Value.bool false,Value.int .i64 0]).toArray t (0,0))) (y:cZ h g u):XM h e a g u M false 0 B:=by
 have x:a ∉ B:=λc=>by
  obtain⟨q,p⟩:=own.in a c;rw[f]at p;cases p
 refine⟨⟨Heap.le_trans m o,⟨mc,t,v,own.aJ (cD.of_le o _)⟩,?_,λb c=>?_⟩,y⟩
 ·intro i;have:=nd i;by_cases j:a=i
  ·subst j;simp[List.count_eq_zero.2 x]
  simp[j];exact this
 rcases List.mem_cons.1 c with rfl|c
 ·cases w:h b with
  | none=>rfl
  | some q=>rw[m b q w]at f;cases f
 exact s b c
theorem XM.again {h d e f:Heap} {mc:List Value} {M:bH} {B:List Nat} {a:Nat} {t:TypeId} {o:Obj} {g:List Value} {u:aS} {w:Bool} {m:Int} (own:eX e mc M B) (nd:Nd B) (j:∀ b∈B,d b=none) (q:h.le d) (C:d.le e) (x:d a=some o) (s:h a=none)
  (z:f a=some (.cells (g++mc++[Value.bool w,Value.int .i64 m]).toArray t (0,0))) (aJ:∀ b,b≠a->f b=e b) (E:cZ h g u):XM h f a g u M w m B:=by
 have v:a ∉ B:=λc=>by have:=j a c;rw[x]at this;cases this
 refine⟨⟨λb F c=>?_,⟨mc,t,z,own.aJ λb y o D=>?_⟩,?_,λb c=>?_⟩,E⟩
 ·have:b≠a:=by rintro rfl;rw[s]at c;cases c
  rw[aJ b this];exact C _ _ (q _ _ c)
 ·have:b≠a:=by rintro rfl;exact v y
  rw[aJ b this];exact D
 ·intro i;have:=nd i;by_cases p:a=i
  ·subst p;simp[List.count_eq_zero.2 v]
  simp[p];exact this
 rcases List.mem_cons.1 c with rfl|c
 ·exact s
 cases A:h b with
 | none=>rfl
 | some o=>have:=j b c;rw[q _ _ A]at this;cases this
theorem XM.out {h0 h:Heap} {g:Nat} {v:List Value} {u:aS} {M:bH} {t:Bool} {o:Int} {B:List Nat} (i:XM h0 h g v u M t o B):∃ e c d a f cs,dQ h g 2 7=some (jv e c d a f cs M)/\eX h (jv e c d a f cs M) M B/\Nd B/\∀ b∈B,h0 b=none:=by
 have j:=i.CX;obtain⟨⟨le,⟨x,y,q,own⟩,nd,m⟩,_⟩:=i;obtain⟨e,c,d,a,f,cs,rfl⟩:=own.jv;refine⟨e,c,d,a,f,cs,?_,own,nd.less λw=>by simp only[List.count_cons];omega,λb s=>m b (List.mem_cons_of_mem _ s)⟩;have p:(jv e c d a f cs M).length=7:=rfl;rw[bK q 7 2 (by simp[j,p])];congr 1
 rw[List.append_assoc,List.drop_append_of_le_length O,<-j,List.drop_length,List.nil_append];have:(7:Nat)=(jv e c d a f cs M).length:=rfl;rw[this,List.take_left]
theorem XM.oF {h0 h:Heap} {a:Nat} {f:List Value} {u:aS} {M:bH} {e:Bool} {c n:Int} {B:List Nat} {K:Heap->Prop} (b:XM h0 h a f u M e c B) (m:∀ h',XM h0 h' a f u {M with steps:=n} e c B->K h'):St h a 5 [.int .i64 n] K:=by
 have o:=b.CX;obtain⟨v,s,q,t,j,_,_,_,p⟩:=b.ma.ints;have d:=(p {M with steps:=n} rfl rfl rfl).1;refine jd j (i:=3) (aE s q t {M with steps:=n}) (by rw[o]) (by simp[aE]) rfl (λh' g _=>?_);rw[<-g]at d;exact m h' ⟨d,b.un⟩
theorem XM.KL {h0 h:Heap} {a:Nat} {f:List Value} {u:aS} {M:bH} {e:Bool} {c n:Int} {B:List Nat} {K:Heap->Prop} (b:XM h0 h a f u M e c B) (m:∀ h',XM h0 h' a f u {M with fin:=n} e c B->K h'):St h a 6 [.int .i64 n] K:=by
 have o:=b.CX;obtain⟨v,s,q,t,j,_,_,_,p⟩:=b.ma.ints;have d:=(p {M with fin:=n} rfl rfl rfl).1;refine jd j (i:=4) (aE s q t {M with fin:=n}) (by rw[o]) (by simp[aE]) rfl (λh' g _=>?_);rw[<-g]at d;exact m h' ⟨d,b.un⟩
theorem sv {K:Value->Heap->Prop} {E:List PanicEntry->Heap->Prop} (mc:List Value) (M:bH) (h:Heap) (o:qy h mc M)
  (j:∀ h' e c d a f cs B,h.le h'->eX h' (jv e c d a f cs M) M B->Nd B->(∀ b∈B,h b=none)->K (.agg ⟨jv e c d a f cs M⟩) h'):fE prog 20 [.agg ⟨mc⟩] h K E:=cO (sq mc M h o) (λv h' m=>by
 obtain⟨g,p,B,rfl,own,nd,i⟩:=m;obtain⟨e,c,d,a,f,cs,rfl⟩:=own.jv;exact⟨g,j h' e c d a f cs B g own nd i⟩)
theorem uP {K:Value->Heap->Prop} {E:List PanicEntry->Heap->Prop} (mc:List Value) (M:bH) (h:Heap) (m:qy h mc M)
  (i:∀ h' e c d a f cs B,h.le h'->eX h' (jv e c d a f cs M) M B->Nd B->(∀ b∈B,h b=none)->K (.agg ⟨jv e c d a f cs M⟩) h'):Vc.Call prog 20 [.agg ⟨mc⟩] h K E:=aG (sq mc M h m) (λv h' j=>by
 obtain⟨o,p,B,rfl,own,nd,g⟩:=j;obtain⟨e,c,d,a,f,cs,rfl⟩:=own.jv;exact i h' e c d a f cs B o own nd g)
def lE (u:aS) (fs:List bL) (f:bL) (M:bH):bH:=match ig u fs f M with
 | .ok a=>{a with steps:=M.steps+1}
 | .error k=>if k=0 then {M with fin:=3,steps:=M.steps+1}else {bU u k M with steps:=M.steps+1}
theorem yg {u:aS} {M:bH} {fs:List bL} {f:bL} (c:M.au=fs++[f]) (d:¬(M.fin≠0\/200<=M.steps\/200<=M.said.length\/207<=M.objs.length)):dA u M=lE u fs f M:=by
 rw[wE c d];unfold lE;cases b:ig u fs f M with
 | ok e=>simp only[wH b]
 | error k =>
  by_cases a:k=0
  ·simp[a]
  simp[a,mF]
theorem wM (mc us:List Value) (u:aS) (M:bH) (h:Heap) (fs:List bL) (f:bL) (hr:qy h mc M) (hu:cZ h us u) (I:cC u) (e:mE u M) (hf:M.au=fs++[f]) (FL:M.fin=0) :
  bI prog 21 [.agg ⟨us⟩,.agg ⟨mc⟩] h λv h'=>h.le h'/\∃ Fx B,v=.agg ⟨Fx⟩/\eX h' Fx (lE u fs f M) B/\Nd B/\∀ b∈B,h b=none:=by
 have qH:=hr;have oT:=hu;have KD:=Jc u M fs f I e hf;have FQ:f∈M.au:=by rw[hf];simp
 have V:=e.gh f FQ;have nu:=e.steps;have aah:M.au.length=fs.length+1:=by rw[hf];simp
 have KA:=e.nf;obtain⟨p,m,q,o,rfl,hcs,kS,ko,hl2⟩:=hu.form;obtain⟨vo,vf,vs,rfl,s1,s2,a,DJ,hs⟩:=hr;obtain⟨po,co,rfl,_,_⟩:=a.len;obtain⟨pf,cf,rfl,_,_⟩:=DJ.len;obtain⟨ps,cs,AU⟩:∃ p K,vs=.slice p M.said.length K:=by
  obtain⟨_,_,p,K,ae,_⟩:=hs;exact⟨p,K,by simpa using ae⟩
 subst AU;have lu:fs.length < M.au.length:=by omega
 have hfe:M.au[fs.length]=f:=by simp[hf]
 obtain⟨bb,off,xs,hq,e1,v1,v2,rfl,e2,e3⟩:=DJ.get lu;rw[hfe]at e1 e2 e3;obtain⟨_,_,Xa,Xb,rfl,_⟩:=e2;obtain⟨_,_,pv2,cv2,rfl,_⟩:=e3;have hi:f.aC.toNat < u.methods.length:=by have:=V.1;omega
 obtain⟨bu,ou,ms,Xc,eu1,eu2⟩:=kS.get hi;have CP:aY u f.aC=u.methods[f.aC.toNat]:=fm hi (by have:=V.1;omega);obtain⟨p1,c1,p2,c2,p3,c3,p4,c4,e5,k1,k2,k3,k4,k5,k6,k7,k8,d1,d2,d3,d4⟩:=eu2.form;subst e5;rw[<-CP]at k6 d2;have Pq:rd h bu (ou+f.aC.toNat*8+5)=some (.slice p2 (aY u f.aC).code.length c2):=by rw[CP];exact aM eu1 (i:=5) rfl
 have HZ:=I.aY V.1;have aai:=V.2.1;have ME:Jb u M fs f=if f.pc=(aY u f.aC).code.length then (M,true,0)else uL u (aV M fs f) ((aY u f.aC).code.getD f.pc.toNat dj):=rfl
 generalize lA:Jb u M fs f=res at KD ME;have BA:off+(((M.au.length:Int)-1).toNat)*4=off+fs.length*4:=by omega
 have ON:dQ h bb (off+(((M.au.length:Int)-1).toNat)*4) 4=some [.int .i64 f.aC,.int .i64 f.pc,.slice Xa (List.map bM f.locals).length Xb,.slice pv2 (List.map bM f.stack).length cv2]:=by rw[BA];exact e1
 have Y:(∃ M',res=(M',false,0)/\lE u fs f M = {M' with steps:=M.steps+1})\/(res.2.1=true/\lE u fs f M = {M with fin:=3,steps:=M.steps+1})\/(∃ k,(0 < k/\k<=7)/\res.2.1=false/\res.2.2=k/\lE u fs f M = {bU u k M with steps:=M.steps+1}):=by
  cases hd:ig u fs f M with
  | ok M' =>
   rw[hd]at KD;exact .inl ⟨M',KD,by unfold lE;rw[hd]⟩
  | error k =>
   rw[hd]at KD;have EH:=xZ hd;by_cases j:k=0
   ·refine .inr (.inl ⟨?_,by unfold lE;rw[hd];simp[j]⟩);simpa [Rl,j]using KD
   refine .inr (.inr ⟨k,EH.resolve_left j,?_⟩);have:res.2.1=false/\res.2.2=k:=by simpa [Rl,j]using KD
   exact⟨this.1,this.2,by unfold lE;rw[hd];simp[j]⟩
 generalize lE u fs f M=Mx at Y ⊢;have Pr:f.pc≠(aY u f.aC).code.length->Pk u (aV M fs f):=λhp=>⟨⟨⟨e.len.1,by show M.objs.length<=300;have:=e.len.2;omega⟩,e.objs,by show fs.length<=3;omega,V,by show(0:Int)<=0;omega⟩,λaa hg=>e.gh aa (by rw[hf];simp;exact .inl hg),rfl,rfl,by show f.pc < ((aY u f.aC).code.length:Int);omega,by show M.said.length<=300;have:=e.iS;omega⟩
 have Ur:(aV M fs f).x5=M:=by unfold aV Sx.x5;rw[<-hf]
 have Gy:∀ k,0 < k->k<=7->jW u k M false 0=(bU u k M,false,0):=λk h1 h2=>by
  unfold jW;rw[e.low k h1 h2,if_neg];rw[qm I.1 O (by have:=I.1.1;omega)];simp
 have I1:∀ ad∈u.methods,∀ K∈ad.catches,(0<=K.hi/\K.hi<=1000)/\0<=K.cls:=λad hm K d=>by
  have HZ:=I.2.2.2.1 ad hm;have h1:=HZ.2.2.2 K d;have h2:=HZ.2.1.2.1;obtain⟨q1,q2,q3,_⟩:=h1;omega
 have mR:f.pc≠(aY u f.aC).code.length->∃ bc oc ck ca cb,p2=some ⟨bc,oc,none⟩/\dQ h bc (oc+f.pc.toNat*3) 3=some [.int .i64 ck,.int .i64 ca,.int .i64 cb]/\ej u (aY u f.aC) ⟨ck,ca,cb⟩/\(aY u f.aC).code.getD f.pc.toNat dj=⟨ck,ca,cb⟩:=by
  intro hp;have MF:f.pc.toNat < (aY u f.aC).code.length:=by omega
  obtain⟨bc,oc,Tq,FO,f1,f2,f3⟩:=k6.get MF;have hg:(aY u f.aC).code.getD f.pc.toNat dj=(aY u f.aC).code[f.pc.toNat]:=by simp[MF]
  subst f2;exact⟨bc,oc,_,_,_,FO,f1,HZ.2.1.2.2.2.1 _ (List.getElem_mem MF),hg⟩
 have Xd:=HZ.2.1.2.1;refine bT aB func21 YB U rfl ?_;unfold aE;conv=>whnf
 repeat' ((first|exact trivial|apply And.intro|refine sv _ M h qH (λh1 po1 co1 pf1 cf1 Xe Xf B1 l1 Us Ut fr1=>?_))<;>conv=>whnf)
 refine dn ([.slice p u.aq.length m,.slice q u.methods.length o]++jv po1 co1 pf1 cf1 Xe Xf M++[.bool false,.int .i64 0]) rfl (λJ h2 oU ee2 l2 g2=>?_);have AJ:XM h h2 J [.slice p u.aq.length m,.slice q u.methods.length o] u M false 0 B1:=XM.made Us Ut fr1 l1 oU l2 g2 oT;have NJ:=Heap.le_trans l1 l2;have Pt:h J=none:=by
  cases g:h J with
  | none=>rfl
  | some ab=>rw[l1 J ab g]at oU;cases oU
 have Uu:=bG NJ ON;have Gz:=aW NJ Pq;conv=>whnf
 refine av ?_;conv=>whnf
 refine ay ?_;conv=>whnf
 refine aP hq ?_;conv=>whnf
 refine dh Uu ?_;conv=>whnf
 repeat' ((first|exact trivial|apply And.intro|refine ob (by have:=V.1;omega) ?_|refine aP Xc ?_|refine ld Gz ?_)<;>conv=>whnf)
 apply aD<;>intro QS;all_goals conv=>whnf
 ·have C7:res=(M,true,0):=by rw[ME,if_pos QS]
  refine AJ.stuck (λh3 c vV e3=>?_);obtain⟨B3,hB3⟩:∃ B3,B3=B1:=⟨_,rfl⟩
  rw[<-hB3]at c;replace c:XM h h3 J [.slice p u.aq.length m,.slice q u.methods.length o] u res.1 res.2.1 res.2.2 B3:=by rw[C7];exact c
  have F:=c.ma.le;refine Y.elim (λL=>?_) (λY=>Y.elim (λhB=>?_) (λx=>?_))
  ·refine L.elim λM' L=>?_;have D:=L.2;have GA:=L.1;rw[GA]at c;have H:=c.jl.1;have Q:=c.jl.2.1;conv=>whnf
   repeat' ((first|refine ld H ?_|refine ld Q ?_|refine ay ?_|refine av ?_|refine ptr ?_)<;>conv=>whnf)
   refine c.oF (λh4 Pu=>?_);refine Pu.out.elim λz a=>a.elim λt a=>a.elim λy a=>a.elim λs a=>a.elim λA a=>a.elim λw a=>?_;have G:=a.1;conv=>whnf
   refine dh G ?_;conv=>whnf
   rw[D];exact⟨Pu.ma.le,_,B3,rfl,a.2⟩
  ·have D:=hB.2;rw[hB.1]at c;have H:=c.jl.1;conv=>whnf
   repeat' ((first|refine ld H ?_|refine ay ?_|refine av ?_|refine ptr ?_)<;>conv=>whnf)
   refine uP _ M h3 (qH.le F) (λh4 z t y s A w C P BS IN R=>?_);refine c.ma.cell.elim λPv d=>d.elim λt3 d=>?_;have yE:=d.1;have Pw:Pv.length=7:=by obtain⟨_,_,_,_,_,_,rfl,_⟩:=d.2;rfl
   conv=>whnf
   refine vI (P _ _ yE) ([.slice p u.aq.length m,.slice q u.methods.length o]++jv z t y s A w M++[.bool true,.int .i64 res.2.2]) (by simp[Pw]) (jN Z (by rw[Pw];rfl)) (λT e5 S=>?_);have W:XM h T J [.slice p u.aq.length m,.slice q u.methods.length o] u M true res.2.2 C:=XM.again BS IN R F P yE Pt S (λb X=>by rw[e5];simp only[Heap.set,X,if_false]) oT;conv=>whnf
   refine W.KL (λh6 N=>?_);conv=>whnf
   refine av ?_;conv=>whnf
   refine N.oF (λh7 E=>?_);refine E.out.elim λz a=>a.elim λt a=>a.elim λy a=>a.elim λs a=>a.elim λA a=>a.elim λw a=>?_;have G:=a.1;conv=>whnf
   refine dh G ?_;conv=>whnf
   rw[D];exact⟨E.ma.le,_,C,rfl,a.2⟩
  refine x.elim λk x=>?_;have j:=x.1;have D:=x.2.2.2;have vJ:=Gy k j.1 j.2;rw[x.2.1,x.2.2.1]at c;have H:=c.jl.1;have Q:=c.jl.2.1;conv=>whnf
  refine ld H ?_;conv=>whnf
  refine ld Q ?_;conv=>whnf
  refine eR j.1 ?_;conv=>whnf
  refine ld Q ?_;conv=>whnf
  repeat' ((first|exact trivial|apply And.intro|refine sv _ M h3 (qH.le F) (λh4 z t y s A w C P BS IN R=>?_))<;>conv=>whnf)
  refine dn ([.slice p u.aq.length m,.slice q u.methods.length o]++jv z t y s A w M++[.bool false,.int .i64 0]) rfl (λPx T vG ee5 l5 S=>?_);have MG:∀ b∈C,h b=none:=λb X=>by
   cases g:h b with
   | none=>rfl
   | some ab=>have:=R b X;rw[F b ab g]at this;cases this
  have W:XM h T Px [.slice p u.aq.length m,.slice q u.methods.length o] u M false 0 C:=XM.made BS IN MG (Heap.le_trans F P) vG l5 S oT;have GB:=yd W I.1 k (by have:=e.len;omega) (by have:=e.len;omega) O (by rw[e.low k j.1 j.2];have:=I.1.1;omega) (λaa hg=>(e.gh aa hg).1) I1;rw[vJ]at GB;conv=>whnf
  refine aG GB (λv h6 g=>?_);refine g.elim λB6 g=>?_;have N:XM h h6 Px [.slice p u.aq.length m,.slice q u.methods.length o] u (bU u k M) false 0 B6:=g.1;have w9:=N.jl.1;conv=>whnf
  refine ld w9 ?_;conv=>whnf
  refine av ?_;conv=>whnf
  refine N.oF (λh7 E=>?_);refine E.out.elim λz a=>a.elim λt a=>a.elim λy a=>a.elim λs a=>a.elim λA a=>a.elim λw a=>?_;have G:=a.1;conv=>whnf
  refine dh G ?_;conv=>whnf
  rw[D];exact⟨E.ma.le,_,B6,rfl,a.2⟩
 have C7:res=uL u (aV M fs f) ((aY u f.aC).code.getD f.pc.toNat dj):=by rw[ME,if_neg QS]
 refine(mR QS).elim λbc d=>d.elim λoc d=>d.elim λck d=>d.elim λca d=>d.elim λcb d=>?_;have FO:=d.1;have hrc:=bG NJ d.2.1;have O5:XS h h2 J [.slice p u.aq.length m,.slice q u.methods.length o] u (aV M fs f) B1:=by
  show XM h h2 J _ u (aV M fs f).x5 false 0 B1;rw[Ur];exact AJ
 have FZ:=MB O5 (Pr QS) I ck ca cb d.2.2.1;rw[d.2.2.2]at C7;rw[<-C7]at FZ;repeat' ((first|exact trivial|apply And.intro|refine ob (by have:=V.1;omega) ?_|refine aP Xc ?_|refine ld Gz ?_|refine aP FO ?_|refine dh hrc ?_)<;>conv=>whnf)
 refine aG FZ (λv h3 g=>?_);refine g.elim λB3 g=>?_;have c:=g.1;have F:=c.ma.le;refine Y.elim (λL=>?_) (λY=>Y.elim (λhB=>?_) (λx=>?_))
 ·refine L.elim λM' L=>?_;have D:=L.2;have GA:=L.1;rw[GA]at c;have H:=c.jl.1;have Q:=c.jl.2.1;conv=>whnf
  repeat' ((first|refine ld H ?_|refine ld Q ?_|refine ay ?_|refine av ?_|refine ptr ?_)<;>conv=>whnf)
  refine c.oF (λh4 Pu=>?_);refine Pu.out.elim λz a=>a.elim λt a=>a.elim λy a=>a.elim λs a=>a.elim λA a=>a.elim λw a=>?_;have G:=a.1;conv=>whnf
  refine dh G ?_;conv=>whnf
  rw[D];exact⟨Pu.ma.le,_,B3,rfl,a.2⟩
 ·have D:=hB.2;rw[hB.1]at c;have H:=c.jl.1;conv=>whnf
  repeat' ((first|refine ld H ?_|refine ay ?_|refine av ?_|refine ptr ?_)<;>conv=>whnf)
  refine uP _ M h3 (qH.le F) (λh4 z t y s A w C P BS IN R=>?_);refine c.ma.cell.elim λPv d=>d.elim λt3 d=>?_;have yE:=d.1;have Pw:Pv.length=7:=by obtain⟨_,_,_,_,_,_,rfl,_⟩:=d.2;rfl
  conv=>whnf
  refine vI (P _ _ yE) ([.slice p u.aq.length m,.slice q u.methods.length o]++jv z t y s A w M++[.bool true,.int .i64 res.2.2]) (by simp[Pw]) (jN Z (by rw[Pw];rfl)) (λT e5 S=>?_);have W:XM h T J [.slice p u.aq.length m,.slice q u.methods.length o] u M true res.2.2 C:=XM.again BS IN R F P yE Pt S (λb X=>by rw[e5];simp only[Heap.set,X,if_false]) oT;conv=>whnf
  refine W.KL (λh6 N=>?_);conv=>whnf
  refine av ?_;conv=>whnf
  refine N.oF (λh7 E=>?_);refine E.out.elim λz a=>a.elim λt a=>a.elim λy a=>a.elim λs a=>a.elim λA a=>a.elim λw a=>?_;have G:=a.1;conv=>whnf
  refine dh G ?_;conv=>whnf
  rw[D];exact⟨E.ma.le,_,C,rfl,a.2⟩
 refine x.elim λk x=>?_;have j:=x.1;have D:=x.2.2.2;have vJ:=Gy k j.1 j.2;rw[x.2.1,x.2.2.1]at c;have H:=c.jl.1;have Q:=c.jl.2.1;conv=>whnf
 refine ld H ?_;conv=>whnf
 refine ld Q ?_;conv=>whnf
 refine eR j.1 ?_;conv=>whnf
 refine ld Q ?_;conv=>whnf
 repeat' ((first|exact trivial|apply And.intro|refine sv _ M h3 (qH.le F) (λh4 z t y s A w C P BS IN R=>?_))<;>conv=>whnf)
 refine dn ([.slice p u.aq.length m,.slice q u.methods.length o]++jv z t y s A w M++[.bool false,.int .i64 0]) rfl (λPx T vG ee5 l5 S=>?_);have MG:∀ b∈C,h b=none:=λb X=>by
  cases g:h b with
  | none=>rfl
  | some ab=>have:=R b X;rw[F b ab g]at this;cases this
 have W:XM h T Px [.slice p u.aq.length m,.slice q u.methods.length o] u M false 0 C:=XM.made BS IN MG (Heap.le_trans F P) vG l5 S oT;have GB:=yd W I.1 k (by have:=e.len;omega) (by have:=e.len;omega) O (by rw[e.low k j.1 j.2];have:=I.1.1;omega) (λaa hg=>(e.gh aa hg).1) I1;rw[vJ]at GB;conv=>whnf
 refine aG GB (λv h6 g=>?_);refine g.elim λB6 g=>?_;have N:XM h h6 Px [.slice p u.aq.length m,.slice q u.methods.length o] u (bU u k M) false 0 B6:=g.1;have w9:=N.jl.1;conv=>whnf
 refine ld w9 ?_;conv=>whnf
 refine av ?_;conv=>whnf
 refine N.oF (λh7 E=>?_);refine E.out.elim λz a=>a.elim λt a=>a.elim λy a=>a.elim λs a=>a.elim λA a=>a.elim λw a=>?_;have G:=a.1;conv=>whnf
 refine dh G ?_;conv=>whnf
 rw[D];exact⟨E.ma.le,_,B6,rfl,a.2⟩
end Go.Proofs
