/- Lemmas. -/
import Derived.Test.YthkgbjpkklkppaaGreatDoorMb7
set_option linter.unusedSimpArgs false
set_option linter.unusedVariables false
namespace Go.Proofs
open Go.Vc Go.Proofs.Tryz
set_option maxRecDepth 100000
set_option maxHeartbeats 4000000
set_option pp.maxSteps 600
def VT (h:Heap) (v:Value) (r:Option cz):Prop:=match r with
 | none=>∃ t p n d q k e s,v=.tuple #[.agg #[.bool t,.slice p n d,.slice q k e],broken s]
 | some s=>∃ lp c b a,v=.tuple #[.agg #[.bool s.told,.slice lp s.locals.length c,.slice b s.stack.length a],.nilIface]/\jL h s lp b c a
def sS (n:Nat) (l:List Int):Prop:=∀ t∈l,eA n t
theorem sS.cons {n:Nat} {t:Int} {l:List Int} (h:eA n t) (b:sS n l):sS n (t::l):=λx a=>by
 rcases List.mem_cons.1 a with rfl|a
 ·exact h
 exact b x a
theorem sS.nil {n:Nat}:sS n []:=λx a=>by cases a
theorem bL.ty {n:Nat} {t:Int} (h:bL n t):eA n t:=by
 unfold bL at h;unfold eA;omega
theorem F4 {u:aI} (d:bS u) {a b:Int} (e:0<=a/\a < u.ak.length) (f:0<=b/\b < (bV u.ak a).length):eA u.ak.length ((bV u.ak a).getD b.toNat 0):=by
 have c:b.toNat < (bV u.ak a).length:=by omega
 rw[cI c];exact bL.ty (eM d.1 _ (Nat.lt_succ_self _) e.2 _ (x_ c))
theorem F5 {h:Heap} {p:Option Addr} {n c m:Nat} {l:List Int} {K:Option Addr->Prop} (d:bP h (.slice p n c) l) (i:n=l.length) (f:m<=n) (a:∀ b,bP h (.slice b (n-m) (c-m)) (l.drop m)->K b):Sub p c m 1 K:=by
 by_cases g:m < l.length
 ·exact Ib d g a
 refine sub λe _ _=>a e ?_;rw[List.drop_eq_nil_of_le O,show n-m=0 by omega];exact dX h _ _
theorem uy {u:aI} {m:bT} {k a b:Int} {p:List Int} (e:bS u) (H:eC u.ak.length m) (j:dw u m ⟨k,a,b⟩) (c:fY u m ⟨k,a,b⟩=some p):sS u.ak.length p/\p.length<=3:=by
 obtain⟨f,E⟩:=j.iJ;have i:=iF j;have I:=qv j;have M:=e.1.1;simp only at f E i I;have t0:eA u.ak.length 0:=by unfold eA;omega
 have t1:eA u.ak.length 1:=by unfold eA;omega
 have t8:eA u.ak.length 8:=by unfold eA;omega
 have t9:eA u.ak.length 9:=by unfold eA;omega
 have F:eA u.ak.length (fS a):=by unfold eA fS;split<;>omega
 have L:eA u.ak.length (bW a):=by unfold eA bW;split<;>omega
 have o:0<=a/\a < u.ak.length->eA u.ak.length (8+a):=λD=>by unfold eA;omega
 have G:∀ k:Int,0<=k/\k < u.methods.length->sS u.ak.length (bz u k).args:=λk D K J=>bL.ty ((e.bz D).1.2.2.2.1 K J);have d:sS u.ak.length []:=sS.nil;unfold fY at c;simp only at c;by_cases q:k=4\/k=5\/k=6\/k=14
 ·rw[if_pos q]at c;cases c;exact⟨d.cons t0,Z⟩
 rw[if_neg q]at c;by_cases v:k=7\/k=8\/k=9
 ·rw[if_pos v]at c;cases c;exact⟨(d.cons t1).cons t1,Z⟩
 rw[if_neg v]at c;by_cases w:k=10\/k=19
 ·rw[if_pos w]at c;cases c;exact⟨d.cons t8,Z⟩
 rw[if_neg w]at c;by_cases x:k=13\/k=24
 ·rw[if_pos x]at c;cases c;exact⟨d.cons t1,Z⟩
 rw[if_neg x]at c;by_cases y:k=15
 ·rw[if_pos y]at c;cases c;exact⟨(d.cons t1).cons F,Z⟩
 rw[if_neg y]at c;by_cases z:k=16
 ·rw[if_pos z]at c;cases c;exact⟨((d.cons L).cons t1).cons F,Z⟩
 rw[if_neg z]at c;by_cases A:k=17
 ·rw[if_pos A]at c;cases c;exact⟨d.cons (o (f O)),Z⟩
 rw[if_neg A]at c;by_cases B:k=18
 ·rw[if_pos B]at c;cases c;exact⟨(d.cons (F4 e (f O) (E O))).cons (o (f O)),Z⟩
 rw[if_neg B]at c;by_cases h:k=20
 ·rw[if_pos h]at c;cases c;have:=qx e a;exact⟨G a (i.1 h),O⟩
 rw[if_neg h]at c;by_cases g:k=21
 ·rw[if_pos g]at c;have N:=eD u a b;by_cases C:find u a b < 0
  ·rw[if_pos C]at c;cases c
  rw[if_neg C]at c;cases c;have:=qx e (find u a b);exact⟨(G _ O).cons (o (by have:=i.2 g;omega)),by simp;omega⟩
 rw[if_neg g]at c;by_cases s:k=22
 ·rw[if_pos s]at c;cases c;exact⟨d.cons (bL.ty H.2.2.1),Z⟩
 rw[if_neg s]at c;by_cases t:k=23
 ·rw[if_pos t]at c;cases c;exact⟨d.cons t9,Z⟩
 rw[if_neg t]at c;cases c
 exact⟨d,Z⟩
theorem nS {u:aI} {m:bT} {k a b:Int} {e o left:List Int} (i:bS u) (f:dw u m ⟨k,a,b⟩) (H:sS u.ak.length e) (I:sS u.ak.length o) (E:k=6->o.length=1) (R:(e.length:Int)=m.locals) (F:k=21->0<=find u a b) (c:fo u ⟨k,a,b⟩ e o=some left):sS u.ak.length left/\left.length<=2:=by
 obtain⟨j,D⟩:=f.iJ;have C:=iF f;have G:=qv f;have B:=qw f;have P:=i.1.1;simp only at j D C G B;have t1:eA u.ak.length 1:=by unfold eA;omega
 have t2:eA u.ak.length 2:=by unfold eA;omega
 have K:eA u.ak.length (fS a):=by unfold eA fS;split<;>omega
 have M:eA u.ak.length (bW a):=by unfold eA bW;split<;>omega
 have L:0<=a/\a < u.ak.length->eA u.ak.length (8+a):=λz=>by unfold eA;omega
 have N:∀ k:Int,0<=k/\k < u.methods.length->eA u.ak.length (bz u k).out:=λk z=>bL.ty (i.bz z).1.2.2.1;have d:sS u.ak.length []:=sS.nil;unfold fo at c;simp only at c;by_cases q:k=1\/k=7\/k=14
 ·rw[if_pos q]at c;cases c;exact⟨d.cons t1,Z⟩
 rw[if_neg q]at c;by_cases s:k=2
 ·rw[if_pos s]at c;cases c;exact⟨d.cons t2,Z⟩
 rw[if_neg s]at c;by_cases t:k=3
 ·rw[if_pos t]at c;have Q:=B.2.1 O;have A:a.toNat < e.length:=by omega
  by_cases p:e.getD a.toNat 0=0
  ·rw[if_pos p]at c;cases c
  rw[if_neg p]at c;cases c;refine⟨d.cons ?_,Z⟩;rw[cI A];exact H _ (x_ A)
 rw[if_neg t]at c;by_cases g:k=6
 ·rw[if_pos g]at c;cases c;obtain⟨J,rfl⟩:=List.length_eq_one_iff.1 (E g);have:=I J Z;exact⟨(d.cons this).cons this,Z⟩
 rw[if_neg g]at c;by_cases v:k=12\/k=19
 ·rw[if_pos v]at c;cases c;exact⟨d.cons (L (j O)),Z⟩
 rw[if_neg v]at c;by_cases w:k=13
 ·rw[if_pos w]at c;cases c;exact⟨d.cons K,Z⟩
 rw[if_neg w]at c;by_cases x:k=15
 ·rw[if_pos x]at c;cases c;exact⟨d.cons M,Z⟩
 rw[if_neg x]at c;by_cases y:k=17
 ·rw[if_pos y]at c;cases c;exact⟨d.cons (F4 i (j O) (D O)),Z⟩
 rw[if_neg y]at c;by_cases h:k=20\/k=21
 ·rw[if_pos h]at c;cases c;refine⟨d.cons (N _ ?_),Z⟩;rcases h with rfl|rfl
  ·exact C.1 rfl
  exact⟨F rfl,(eD u a b).2⟩
 rw[if_neg h]at c;cases c
 exact⟨d,Z⟩
theorem Dl {u:aI} {m:bT} {k a b:Int} {D o left:List Int} (A:bS u) (d:dw u m ⟨k,a,b⟩) (I:∀ t∈o,t≠0) (F:k=6->o.length=1) (H:k=21->0<=find u a b) (c:fo u ⟨k,a,b⟩ D o=some left):∀ t∈left,t≠0:=by
 obtain⟨j,E⟩:=d.iJ;have C:=iF d;simp only at j E C;have one:∀ {x:Int},x≠0->∀ t∈[x],t≠0:=λh t i=>by rw[V_.1 i];exact h
 have J:fS a≠0:=by unfold fS;split<;>omega
 have K:bW a≠0:=by unfold bW;split<;>omega
 have fz:∀ {n:Nat} {t:Int},bL n t->t≠0:=λh=>by unfold bL at h;omega
 have L:∀ k:Int,0<=k/\k < u.methods.length->(bz u k).out≠0:=λk h=>fz (A.bz h).1.2.2.1;unfold fo at c;simp only at c;by_cases p:k=1\/k=7\/k=14
 ·rw[if_pos p]at c;cases c;exact one (by decide)
 rw[if_neg p]at c;by_cases q:k=2
 ·rw[if_pos q]at c;cases c;exact one (by decide)
 rw[if_neg q]at c;by_cases s:k=3
 ·rw[if_pos s]at c;by_cases g:D.getD a.toNat 0=0
  ·rw[if_pos g]at c;cases c
  rw[if_neg g]at c;cases c;exact one g
 rw[if_neg s]at c;by_cases e:k=6
 ·rw[if_pos e]at c;cases c;obtain⟨t,rfl⟩:=List.length_eq_one_iff.1 (F e);have:=I t Z;intro x d;simp at d;rw[d];exact this
 rw[if_neg e]at c;by_cases v:k=12\/k=19
 ·rw[if_pos v]at c;cases c;exact one (by have:=j O;omega)
 rw[if_neg v]at c;by_cases w:k=13
 ·rw[if_pos w]at c;cases c;exact one J
 rw[if_neg w]at c;by_cases y:k=15
 ·rw[if_pos y]at c;cases c;exact one K
 rw[if_neg y]at c;by_cases z:k=17
 ·rw[if_pos z]at c;cases c;have G:=j O;have M:=E O;have B:b.toNat < (bV u.ak a).length:=by omega
  rw[cI B];exact one (fz (eM A.1 _ (Nat.lt_succ_self _) G.2 _ (x_ B)))
 rw[if_neg z]at c;by_cases f:k=20\/k=21
 ·rw[if_pos f]at c;cases c;refine one (L _ ?_);rcases f with rfl|rfl
  ·exact C.1 rfl
  exact⟨H rfl,(eD u a b).2⟩
 rw[if_neg f]at c;cases c
 exact λt i=>by cases i
theorem vR {u:aI} {m:bT} {k a b:Int} {e:List Int} (c:fY u m ⟨k,a,b⟩=some e):(k=4\/k=6\/k=14->e.length=1)/\(k=21->0<=find u a b):=by
 refine⟨λd=>?_,λd=>?_⟩
 ·rcases d with rfl|rfl|rfl<;>(cases c;rfl)
 subst d;have f:fY u m ⟨21,a,b⟩=if find u a b < 0 then none else some ((8+a)::(bz u (find u a b)).args):=rfl
 rw[f]at c;by_cases g:find u a b < 0
 ·rw[if_pos g]at c;cases c
 omega
theorem F6 {h:Heap} {p:Option Addr} {n c j:Nat} {l:List Int} {B:List Nat} (t:Int) (own:dM h (.slice p n c) l B) (m:j < l.length) :
  ∃ a,p=some ⟨a,0,none⟩/\B=[a]/\∀ {K:Heap->Prop} {off:Nat},off=j->(∀ b,dM b (.slice p n c) (l.set j t) B->(∀ h0:Heap,h0.le h->h0 a=none->h0.le b)->K b)->St h a off [.int .i64 t] K:=by
 have q:l=l.take j++l[j]::l.drop (j+1):=by simp
 have s:bY 1 h (.slice p n c) ((l.take j).map bD++bD l[j]::(l.drop (j+1)).map bD) B:=by
  unfold dM at own;rw[show l.map bD=(l.take j).map bD++bD l[j]::(l.drop (j+1)).map bD by rw[<-List.map_cons,<-List.map_append,<-q]]at own;exact own
 obtain⟨a,y,pre,post,C,d,i,u,_,g,x⟩:=s.at;simp only[Z_]at d;obtain⟨rfl,_,rfl⟩:=d;have A:pre.length=j:=by rw[u];simp;omega
 refine⟨a,rfl,g,λ{K off} z o=>?_⟩;refine Bv i (pre++bD t++post) (by simp[bD];omega) (mM (x':=bD t) O rfl) (λb e f=>o b ?_ λh0 v w=>?_)
 ·have:=x b (bD t) f rfl;unfold dM;rw[show(l.set j t).map bD=(l.take j).map bD++bD t::(l.drop (j+1)).map bD by rw[List.set_eq_take_append_cons_drop,if_pos m,List.map_append,List.map_cons]];exact this
 rw[e];exact Heap.aT v w
theorem j8 (w:World):(Go.binOp .neq 68 .nilIface .nilIface).run prog w=.ok (.bool false) w:=by
 rfl
theorem fI (s:Value) (w:World):(Go.binOp .neq 68 (broken s) .nilIface).run prog w=.ok (.bool true) w:=by
 rfl
theorem A2 (us ms:List Value) (u:aI) (m:bT) (k a b:Int) (s:cz) (lp H:Option Addr) (lc p:Nat) (h:Heap) (hu:dn h us u) (hm:dz h ms m) (G:bS u) (hH:eC u.ak.length m) (w:dw u m ⟨k,a,b⟩) (o:jL h s lp H lc p) (uO:(s.locals.length:Int)=m.locals) (si:m.locals<=3) (OZ:s.stack.length<=4) (pS:sS u.ak.length s.stack) (Ls:sS u.ak.length s.locals) :
  bq prog 207 [.agg ⟨us⟩,.agg ⟨ms⟩,.agg #[.int .i64 k,.int .i64 a,.int .i64 b],.agg #[.bool s.told,.slice lp s.locals.length lc,.slice H s.stack.length p]] h λv h'=>h.le h'/\VT h' v (iT u m ⟨k,a,b⟩ s):=by
 have tk:=Ii us ms u m k a b h hu hm G hH w;obtain⟨aa,cc,af,ae,rfl,hcs,lR,jq,hl2⟩:=hu.form;obtain⟨p1,c1,p2,c2,p3,c3,p4,c4,rfl,k1,k2,k3,C,k5,k6,k7,k8,d1,d2,d3,d4⟩:=hm.form;have c:iT u m ⟨k,a,b⟩ s=match fY u m ⟨k,a,b⟩with
 | none=>none
 | some d =>
  if s.stack.length < d.length then none
  else if cU u.ak (s.stack.drop (s.stack.length-d.length)) d=false then none
  else if k=14/\dQ u.ak ((s.stack.drop (s.stack.length-d.length)).getD 0 0) 3=false/\dQ u.ak ((s.stack.drop (s.stack.length-d.length)).getD 0 0) 4=false then none
  else match fo u ⟨k,a,b⟩ s.locals (s.stack.drop (s.stack.length-d.length))with
   | none=>none
   | some left=>if 4 < s.stack.length-d.length+left.length then none
    else some ⟨true,if k=4 then s.locals.set a.toNat ((s.stack.drop (s.stack.length-d.length)).getD 0 0)else s.locals,s.stack.take (s.stack.length-d.length)++left⟩:=rfl
 have VU:∀ d,fY u m ⟨k,a,b⟩=some d->sS u.ak.length d/\d.length<=3/\(k=4\/k=6\/k=14->d.length=1)/\(k=21->0<=find u a b):=λd x=>⟨(uy G hH w x).1,(uy G hH w x).2,vR x⟩
 generalize iT u m ⟨k,a,b⟩ s=res at c;generalize fY u m ⟨k,a,b⟩=ta at c tk VU;refine bE ax func207 Q4 U rfl ?_;conv=>whnf
 refine aB tk (λv1 h1 f=>?_);obtain⟨g,e1⟩:=f;cases ta with
 | none =>
  obtain⟨a1,T,rfl⟩:=e1;conv=>whnf
  refine de rfl rfl (λV=>rfl) (fI T) ?_;conv=>whnf
  rw[c];exact⟨g,_,_,_,_,_,_,_,_,rfl⟩
 | some d =>
  obtain⟨pw,cw,rfl,iw⟩:=e1;conv=>whnf
  refine de rfl rfl (λV=>rfl) j8 ?_;conv=>whnf
  have B:=VU d rfl;simp only at c;refine av ?_;conv=>whnf
  apply aC<;>intro g1;all_goals conv=>whnf
  ·rw[if_pos O]at c;rw[c];exact⟨g,_,_,_,_,_,_,_,_,rfl⟩
  rw[if_neg O]at c;have hb:((s.stack.length:Int)-d.length).toNat=s.stack.length-d.length:=by omega
  refine ay ?_;conv=>whnf
  rw[hb];refine F5 (o.2.le g) rfl O (λpt R=>?_);conv=>whnf
  obtain⟨n,hn⟩:∃ n,n=s.stack.length-d.length:=⟨_,rfl⟩
  have ZW:=c;rw[<-hn]at R c ZW ⊢;have T9:n<=s.stack.length:=by omega
  have N:(s.stack.drop n).length=d.length:=by simp;omega
  have LP:sS u.ak.length (s.stack.drop n):=λab ht=>pS ab (List.mem_of_mem_drop ht);obtain⟨e,SA⟩:∃ l,l=s.stack.drop n:=⟨_,rfl⟩
  rw[<-SA]at R c N LP;have Ao:=hcs.le g (λ_ _ w=>w.le g);refine eF [4,6,7,8,12,13,43,44,45] [4,6,7,8] (λi:Nat=>i<=d.length/\cU u.ak e d=cU u.ak (e.drop i) (d.drop i)) (λi=>d.length-i)
   (λi=>([.l 4 0,.l 6 0,.l 7 0,.l 8 0,.v (.int .i64 (s.stack.length-d.length)),.v (.slice pt (s.stack.length-n) (p-n)),.v (.slice pw d.length cw),.v (.int .i64 d.length),.v (.int .i64 i)],
    [some [.slice aa u.ak.length cc,.slice af u.methods.length ae],some [.int .i64 k,.int .i64 a,.int .i64 b],some [.bool s.told,.slice lp s.locals.length lc,.slice H s.stack.length p],some [.bool false,.slice none 0 0,.slice none 0 0]],h1)) 0 ⟨O,Z⟩ rfl ?_
  rintro i ⟨hi,oh⟩;conv=>whnf
  apply aC<;>intro g2;all_goals conv=>whnf
  ·have mC:i < d.length:=by omega
   have L:i < e.length:=by omega
   have Pk:=LP _ (x_ L);have ZX:=B.1 _ (x_ mC);obtain⟨bw,ow,Ua,VV⟩:=iw.at mC;obtain⟨bt,ot,Pm,LQ⟩:=R.at L;have ci:=iz aa u.ak.length cc u.ak e[i] d[i] h1 Ao G.1 Pk ZX;rw[List.drop_eq_getElem_cons mC,List.drop_eq_getElem_cons L]at oh;have F7:cU u.ak e d=(dQ u.ak e[i] d[i]&&cU u.ak (e.drop (i+1)) (d.drop (i+1))):=oh;generalize e[i]=t1 at LQ ci F7;generalize d[i]=t2 at VV ci F7;generalize dQ u.ak t1 t2=ZY at ci F7;refine ay ?_;conv=>whnf
   refine aL Ua ?_;conv=>whnf
   refine ld VV ?_;conv=>whnf
   refine ay ?_;conv=>whnf
   refine aL Pm ?_;conv=>whnf
   refine ld LQ ?_;conv=>whnf
   refine aP ci ?_;conv=>whnf
   cases ZY with
   | false =>
    conv=>whnf
    try refine DQ rfl ?_
    conv=>whnf
    rw[if_pos (by rw[F7];rfl)]at c;rw[c];exact⟨g,_,_,_,_,_,_,_,_,rfl⟩
   | true =>
    conv=>whnf
    refine av ?_;conv=>whnf
    exact cL (i+1) ⟨O,by rw[F7,Bool.true_and]⟩ O rfl
  have Jy:i=d.length:=by omega
  have Kt:cU u.ak e d=true:=by rw[oh,Jy,List.drop_eq_nil_of_le (Nat.le_refl _),List.drop_eq_nil_of_le O];rfl
  rw[if_neg (by rw[Kt];simp)]at c;have e5:s.stack.length-n=e.length:=by omega
  have lv:=F3 _ u m k a b lp pt lc (p-n) s.locals e h1 (hu.le g) G w (o.1.le g) (by rw[<-e5];exact R) uO (λx=>by rw[N];exact B.2.2.1 O) B.2.2.2;rw[<-e5]at lv;by_cases KB:k=14
  ·have j:decide (k=14)=true:=decide_eq_true KB;have L:0 < e.length:=by rw[N,B.2.2.1 O];omega
   have Pk:=LP _ (x_ L);obtain⟨bt,ot,Pm,LQ⟩:=R.at L;have c3:=iz aa u.ak.length cc u.ak e[0] 3 h1 Ao G.1 Pk (by unfold eA;omega);have c4:=iz aa u.ak.length cc u.ak e[0] 4 h1 Ao G.1 Pk (by unfold eA;omega);have g0:e.getD 0 0=e[0]:=cI L;have F:=c;rw[g0]at F;generalize e[0]=t1 at LQ c3 c4 F;generalize dQ u.ak t1 3=r3 at c3 F;generalize dQ u.ak t1 4=r4 at c4 F;generalize decide (k=14)=dk at j ⊢;subst j;conv=>whnf
   refine ay ?_;conv=>whnf
   refine aL Pm ?_;conv=>whnf
   refine ld LQ ?_;conv=>whnf
   refine aP c3 ?_;cases r3 with
   | true =>
    rw[if_neg Z]at F;clear c;have c:=F;conv=>whnf
    refine aB lv (λv2 K f=>?_);obtain⟨z,t⟩:=f;cases hle:fo u ⟨k,a,b⟩ s.locals e with
    | none =>
     rw[hle]at t c;obtain⟨a1,T,rfl⟩:=t;conv=>whnf
     refine de rfl rfl (λV=>rfl) (fI T) ?_;conv=>whnf
     rw[c];exact⟨y_ g z,_,_,_,_,_,_,_,_,rfl⟩
    | some left =>
     have hlt:=nS G w Ls LP (λx=>by rw[N];exact B.2.2.1 O) uO B.2.2.2 hle;rw[hle]at t c;simp only at c;obtain⟨pf,X,rfl,LR⟩:=t;conv=>whnf
     refine de rfl rfl (λV=>rfl) j8 ?_;conv=>whnf
     refine av ?_;conv=>whnf
     apply aC<;>intro g5;all_goals conv=>whnf
     ·rw[if_pos O]at c;rw[c];exact⟨y_ g z,_,_,_,_,_,_,_,_,rfl⟩
     rw[if_neg O]at c;have y:=y_ g z;refine aB (mK _ s.locals K ((o.1.le y).read O)) (λv3 h3 f=>?_);obtain⟨S,B3,A,Le⟩:=f;obtain⟨GK,W,rfl,_⟩:=A.form;have I:(s.stack.take n).length=n:=by simp;omega
     have uN:((s.stack.length:Int)-d.length).toNat=(s.stack.take n).length:=by omega
     have Y:bP h (.slice H (s.stack.take n).length p) (s.stack.take n):=by rw[I];exact o.2.first T9
     have e6:(s.locals.map bD).length=s.locals.length:=by simp
     rw[e6]at A ⊢;have Ub:s.stack.length<=p:=by
      obtain⟨_,p',c',x,hc,_⟩:=o.2;cases x
      exact hc
     conv=>whnf
     have C:¬k=4:=by omega
     have j:decide (k=4)=false:=decide_eq_false C;rw[if_neg C]at c;have Q:bP h3 (.slice GK s.locals.length W) s.locals:=by
      have:=(cM A O (fy o.1)).2;exact this
     generalize decide (k=4)=Uc at j ⊢;subst j;conv=>whnf
     have M:s.locals.length=s.locals.length:=rfl;refine ay ?_;conv=>whnf
     refine cZ [.slice H (s.stack.take n).length p,.slice pf left.length X] (by rw[uN];rfl) (λb7 h7 M8 e7 D J=>?_);conv=>whnf
     have q:=y_ S D;refine aB (nR J (Y.le (y_ y q)) (LR.le q) (by rw[I];omega)) (λv8 h8 f=>?_);obtain⟨E,p8,c8,rfl,P⟩:=f;conv=>whnf
     rw[c];refine⟨y_ y (y_ q E),_,_,_,_,?_,Q.le (y_ D E),P⟩;rw[<-M]
   | false =>
    conv=>whnf
    refine ay ?_;conv=>whnf
    refine aL Pm ?_;conv=>whnf
    refine ld LQ ?_;conv=>whnf
    refine aP c4 ?_;cases r4 with
    | true =>
     rw[if_neg Z]at F;clear c;have c:=F;conv=>whnf
     refine aB lv (λv2 K f=>?_);obtain⟨z,t⟩:=f;cases hle:fo u ⟨k,a,b⟩ s.locals e with
     | none =>
      rw[hle]at t c;obtain⟨a1,T,rfl⟩:=t;conv=>whnf
      refine de rfl rfl (λV=>rfl) (fI T) ?_;conv=>whnf
      rw[c];exact⟨y_ g z,_,_,_,_,_,_,_,_,rfl⟩
     | some left =>
      have hlt:=nS G w Ls LP (λx=>by rw[N];exact B.2.2.1 O) uO B.2.2.2 hle;rw[hle]at t c;simp only at c;obtain⟨pf,X,rfl,LR⟩:=t;conv=>whnf
      refine de rfl rfl (λV=>rfl) j8 ?_;conv=>whnf
      refine av ?_;conv=>whnf
      apply aC<;>intro g5;all_goals conv=>whnf
      ·rw[if_pos O]at c;rw[c];exact⟨y_ g z,_,_,_,_,_,_,_,_,rfl⟩
      rw[if_neg O]at c;have y:=y_ g z;refine aB (mK _ s.locals K ((o.1.le y).read O)) (λv3 h3 f=>?_);obtain⟨S,B3,A,Le⟩:=f;obtain⟨GK,W,rfl,_⟩:=A.form;have I:(s.stack.take n).length=n:=by simp;omega
      have uN:((s.stack.length:Int)-d.length).toNat=(s.stack.take n).length:=by omega
      have Y:bP h (.slice H (s.stack.take n).length p) (s.stack.take n):=by rw[I];exact o.2.first T9
      have e6:(s.locals.map bD).length=s.locals.length:=by simp
      rw[e6]at A ⊢;have Ub:s.stack.length<=p:=by
       obtain⟨_,p',c',x,hc,_⟩:=o.2;cases x
       exact hc
      conv=>whnf
      have C:¬k=4:=by omega
      have j:decide (k=4)=false:=decide_eq_false C;rw[if_neg C]at c;have Q:bP h3 (.slice GK s.locals.length W) s.locals:=by
       have:=(cM A O (fy o.1)).2;exact this
      generalize decide (k=4)=Uc at j ⊢;subst j;conv=>whnf
      have M:s.locals.length=s.locals.length:=rfl;refine ay ?_;conv=>whnf
      refine cZ [.slice H (s.stack.take n).length p,.slice pf left.length X] (by rw[uN];rfl) (λb7 h7 M8 e7 D J=>?_);conv=>whnf
      have q:=y_ S D;refine aB (nR J (Y.le (y_ y q)) (LR.le q) (by rw[I];omega)) (λv8 h8 f=>?_);obtain⟨E,p8,c8,rfl,P⟩:=f;conv=>whnf
      rw[c];refine⟨y_ y (y_ q E),_,_,_,_,?_,Q.le (y_ D E),P⟩;rw[<-M]
    | false =>
     rw[if_pos ⟨KB,rfl,rfl⟩]at F;conv=>whnf
     rw[F];exact⟨g,_,_,_,_,_,_,_,_,rfl⟩
  have j:decide (k=14)=false:=decide_eq_false KB;rw[if_neg (λad=>KB ad.1)]at c;generalize decide (k=14)=dk at j ⊢;subst j;conv=>whnf
  refine aB lv (λv2 K f=>?_);obtain⟨z,t⟩:=f;cases hle:fo u ⟨k,a,b⟩ s.locals e with
  | none =>
   rw[hle]at t c;obtain⟨a1,T,rfl⟩:=t;conv=>whnf
   refine de rfl rfl (λV=>rfl) (fI T) ?_;conv=>whnf
   rw[c];exact⟨y_ g z,_,_,_,_,_,_,_,_,rfl⟩
  | some left =>
   have hlt:=nS G w Ls LP (λx=>by rw[N];exact B.2.2.1 O) uO B.2.2.2 hle;rw[hle]at t c;simp only at c;obtain⟨pf,X,rfl,LR⟩:=t;conv=>whnf
   refine de rfl rfl (λV=>rfl) j8 ?_;conv=>whnf
   refine av ?_;conv=>whnf
   apply aC<;>intro g5;all_goals conv=>whnf
   ·rw[if_pos O]at c;rw[c];exact⟨y_ g z,_,_,_,_,_,_,_,_,rfl⟩
   rw[if_neg O]at c;have y:=y_ g z;refine aB (mK _ s.locals K ((o.1.le y).read O)) (λv3 h3 f=>?_);obtain⟨S,B3,A,Le⟩:=f;obtain⟨GK,W,rfl,_⟩:=A.form;have I:(s.stack.take n).length=n:=by simp;omega
   have uN:((s.stack.length:Int)-d.length).toNat=(s.stack.take n).length:=by omega
   have Y:bP h (.slice H (s.stack.take n).length p) (s.stack.take n):=by rw[I];exact o.2.first T9
   have e6:(s.locals.map bD).length=s.locals.length:=by simp
   rw[e6]at A ⊢;have Ub:s.stack.length<=p:=by
    obtain⟨_,p',c',x,hc,_⟩:=o.2;cases x
    exact hc
   conv=>whnf
   by_cases C:k=4
   ·have j:decide (k=4)=true:=decide_eq_true C;rw[if_pos C]at c;have VW:=(qw w).2.1;simp only at VW;have ha:=VW O;have ZZ:e.length=1:=by rw[N];exact B.2.2.1 O
    obtain⟨t1,UM⟩:∃ ab,e=[ab]:=List.length_eq_one_iff.1 ZZ;have hj:a.toNat < s.locals.length:=by omega
    obtain⟨b6,o6,q6,r6⟩:=R.at (i:=0) O;have VX:=cW (y_ z S) r6;have g0:e.getD 0 0=e[0]:=cI O;rw[g0]at c;have VY:=fy R _ (x_ (show 0 < e.length by omega));generalize e[0]=t6 at VX c VY;obtain⟨bl,rfl,Su,uQ⟩:=F6 t6 A hj;generalize decide (k=4)=Uc at j ⊢;subst j;conv=>whnf
    refine ay ?_;conv=>whnf
    refine aL q6 ?_;conv=>whnf
    refine ld VX ?_;conv=>whnf
    refine ay ?_;conv=>whnf
    refine aL rfl ?_;conv=>whnf
    refine uQ Z (λh5 Ud Nq=>?_);conv=>whnf
    have Te:K.le h5:=Nq K S (Le _ (by rw[Su];simp));have Q:bP h5 (.slice (some ⟨bl,0,none⟩) (s.locals.set a.toNat t6).length W) (s.locals.set a.toNat t6):=by
     have:=(cM Ud (by simp;omega) (λad w=>by
      rcases List.mem_or_eq_of_mem_set w with w|rfl
      ·exact fy o.1 ad w
      exact VY)).2
     exact this
    have M:s.locals.length=(s.locals.set a.toNat t6).length:=by simp
    refine ay ?_;conv=>whnf
    refine cZ [.slice H (s.stack.take n).length p,.slice pf left.length X] (by rw[uN];rfl) (λb7 h7 M8 e7 D J=>?_);conv=>whnf
    have q:=y_ Te D;refine aB (nR J (Y.le (y_ y q)) (LR.le q) (by rw[I];omega)) (λv8 h8 f=>?_);obtain⟨E,p8,c8,rfl,P⟩:=f;conv=>whnf
    rw[c];refine⟨y_ y (y_ q E),_,_,_,_,?_,Q.le (y_ D E),P⟩;rw[<-M]
   skip
   have j:decide (k=4)=false:=decide_eq_false C;rw[if_neg C]at c;have Q:bP h3 (.slice GK s.locals.length W) s.locals:=by
    have:=(cM A O (fy o.1)).2;exact this
   generalize decide (k=4)=Uc at j ⊢;subst j;conv=>whnf
   have M:s.locals.length=s.locals.length:=rfl;refine ay ?_;conv=>whnf
   refine cZ [.slice H (s.stack.take n).length p,.slice pf left.length X] (by rw[uN];rfl) (λb7 h7 M8 e7 D J=>?_);conv=>whnf
   have q:=y_ S D;refine aB (nR J (Y.le (y_ y q)) (LR.le q) (by rw[I];omega)) (λv8 h8 f=>?_);obtain⟨E,p8,c8,rfl,P⟩:=f;conv=>whnf
   rw[c];refine⟨y_ y (y_ q E),_,_,_,_,?_,Q.le (y_ D E),P⟩;rw[<-M]
set_option pp.maxSteps 400
def Full (n:Nat) (k:Int) (s:cz):Prop:=mH n k s/\s.told=true
theorem Full.tell {n:Nat} {k:Int} {s:cz} (f:Full n k s):s.told=true/\(s.locals.length:Int)=k/\s.stack.length<=4/\sS n s.locals/\sS n s.stack/\∀ t∈s.stack,t≠0:=by
 obtain⟨h,c⟩:=f;rcases h with ⟨h,_⟩|⟨_,d,e,g,b⟩
 ·rw[c]at h;cases h
 refine⟨c,d,e,λt a=>?_,λt a=>?_,λt a=>(b t a).1⟩
 ·have:=g t a;unfold ej at this;unfold eA;omega
 have:=(b t a).2;unfold ej at this;unfold eA;omega
theorem A3 (p:Option Addr) (c:Nat) (cs:List dB) (k:Int) (s r:cz) (lp v x t:Option Addr) (w u mc q:Nat) (h:Heap) (y:eP h (.slice p cs.length c) cs) (ok:bX cs) (fs:Full cs.length k s) (i:Full cs.length k r) (j:jL h s lp v w u) (m:jL h r x t mc q) :
  Pure prog 206 [.slice p cs.length c,.agg #[.bool s.told,.slice lp s.locals.length w,.slice v s.stack.length u],.agg #[.bool r.told,.slice x r.locals.length mc,.slice t r.stack.length q]] h (.bool (decide (s.stack.length=r.stack.length))):=by
 have f:=fs.tell;have e:=i.tell;have z:=ok.2.1;have b:=qO p cs.length c s.locals.length s _ _ h O j.1 j.2;have d:=qO p cs.length c r.locals.length r _ _ h O m.1 m.2;rw[f.2.1,eg fs.1]at b;rw[e.2.1,eg i.1]at d;rw[<-f.2.1]at b;rw[<-e.2.1]at d;rw[f.1]at b ⊢;rw[e.1]at d ⊢;have o:decide ((s.locals.length:Int)=r.locals.length)=true:=decide_eq_true O;refine gF ax func206 Q3 U rfl ?_;conv=>whnf
 generalize decide ((s.locals.length:Int)=r.locals.length)=d1 at o ⊢;subst o;conv=>whnf
 by_cases g:s.stack.length=r.stack.length
 ·have a:decide ((s.stack.length:Int)=r.stack.length)=true:=decide_eq_true O;generalize decide ((s.stack.length:Int)=r.stack.length)=d2 at a ⊢;subst a;conv=>whnf
  refine au b ?_;conv=>whnf
  refine au d ?_;conv=>whnf
  exact⟨by rw[decide_eq_true g],rfl⟩
 have a:decide ((s.stack.length:Int)=r.stack.length)=false:=decide_eq_false O;generalize decide ((s.stack.length:Int)=r.stack.length)=d2 at a ⊢;subst a;conv=>whnf
 exact⟨by rw[decide_eq_false g],rfl⟩
theorem vS (p:Option Addr) (c:Nat) (cs:List dB) (k:Int) (s r:cz) (lp u w q:Option Addr) (v t mc o:Nat) (h:Heap) (B:eP h (.slice p cs.length c) cs) (ok:bX cs) (fs:Full cs.length k s) (G:Full cs.length k r) (d:jL h s lp u v t) (A:jL h r w q mc o) :
  Pure prog 147 [.slice p cs.length c,.agg #[.bool s.told,.slice lp s.locals.length v,.slice u s.stack.length t],.agg #[.bool r.told,.slice w r.locals.length mc,.slice q r.stack.length o]] h (.bool (oS cs s r)):=by
 have I:=fs.tell;have H:=G.tell;have L:=A3 p c cs k s r lp u w q v t mc o h B ok fs G d A;have Y:s.locals.length=r.locals.length:=by omega
 have x:∀ {F:Bool},oS cs s r=F->Value.bool F=.bool (oS cs s r):=λe=>by rw[e]
 have l1:=d.1.1;have l2:=d.2.1;refine gF ax func147 Qj U rfl ?_;conv=>whnf
 refine au L ?_;by_cases e:s.stack.length=r.stack.length
 ·rw[decide_eq_true e];have Q:oS cs s r=(cU cs (s.locals.drop 0) (r.locals.drop 0)&&cU cs s.stack r.stack):=by unfold oS;simp[e]
  conv=>whnf
  refine eF [0,4,5,17,18,19] [4,5] (λi:Nat=>i<=s.locals.length/\oS cs s r=(cU cs (s.locals.drop i) (r.locals.drop i)&&cU cs s.stack r.stack)) (λi=>s.locals.length-i)
   (λi=>([.v (.slice p cs.length c),.l 4 0,.l 5 0,.v (.slice lp s.locals.length v),.v (.int .i64 s.locals.length),.v (.int .i64 i)],[some [.bool s.told,.slice lp s.locals.length v,.slice u s.stack.length t],some [.bool r.told,.slice w r.locals.length mc,.slice q r.stack.length o]],h)) 0 ⟨O,Q⟩ rfl ?_
  rintro i ⟨W,f⟩;conv=>whnf
  apply aC<;>intro M;all_goals conv=>whnf
  ·have a:i < s.locals.length:=by omega
   have b:i < r.locals.length:=by omega
   obtain⟨J,T,C,y⟩:=d.1.at a;obtain⟨K,V,D,z⟩:=A.1.at b;have m:=iz p cs.length c cs s.locals[i] r.locals[i] h B ok (I.2.2.2.1 _ (x_ a)) (H.2.2.2.1 _ (x_ b));rw[jK a b]at f;generalize dQ cs s.locals[i] r.locals[i]=E at m f;refine ay ?_;conv=>whnf
   refine aL C ?_;conv=>whnf
   refine ld y ?_;conv=>whnf
   refine ay ?_;conv=>whnf
   refine aL D ?_;conv=>whnf
   refine ld z ?_;conv=>whnf
   refine au m ?_;cases E with
   | false =>
    conv=>whnf
    exact⟨x (by rw[f];rfl),rfl⟩
   | true =>
    conv=>whnf
    refine av ?_;conv=>whnf
    exact cL (i+1) ⟨O,by rw[f];rfl⟩ O rfl
  have P:i=s.locals.length:=by omega
  have R:oS cs s r=cU cs (s.stack.drop 0) (r.stack.drop 0):=by
   rw[f,P,List.drop_length,List.drop_eq_nil_of_le O];rfl
  refine eF [0,5,35,36,37] [5] (λi:Nat=>i<=s.stack.length/\oS cs s r=cU cs (s.stack.drop i) (r.stack.drop i)) (λi=>s.stack.length-i)
   (λi=>([.v (.slice p cs.length c),.l 5 0,.v (.slice u s.stack.length t),.v (.int .i64 s.stack.length),.v (.int .i64 i)],[some [.bool r.told,.slice w r.locals.length mc,.slice q r.stack.length o]],h)) 0 ⟨O,R⟩ rfl ?_
  rintro j ⟨X,g⟩;conv=>whnf
  apply aC<;>intro N;all_goals conv=>whnf
  ·have a:j < s.stack.length:=by omega
   have b:j < r.stack.length:=by omega
   obtain⟨J,T,C,y⟩:=d.2.at a;obtain⟨K,V,D,z⟩:=A.2.at b;have m:=iz p cs.length c cs s.stack[j] r.stack[j] h B ok (I.2.2.2.2.1 _ (x_ a)) (H.2.2.2.2.1 _ (x_ b));rw[jK a b]at g;generalize dQ cs s.stack[j] r.stack[j]=E at m g;refine ay ?_;conv=>whnf
   refine aL C ?_;conv=>whnf
   refine ld y ?_;conv=>whnf
   refine ay ?_;conv=>whnf
   refine aL D ?_;conv=>whnf
   refine ld z ?_;conv=>whnf
   refine au m ?_;cases E with
   | false =>
    conv=>whnf
    exact⟨x (by rw[g];rfl),rfl⟩
   | true =>
    conv=>whnf
    refine av ?_;conv=>whnf
    exact cL (j+1) ⟨O,by rw[g];rfl⟩ O rfl
  have S:j=s.stack.length:=by omega
  exact⟨x (by rw[g,S,List.drop_length,List.drop_eq_nil_of_le O];rfl),rfl⟩
 rw[decide_eq_false e];conv=>whnf
 exact⟨x (by unfold oS;simp[e]),rfl⟩
theorem lB {u:aI} {m:bT} {k a b:Int} {s nx:cz} (o:bS u) (F:eC u.ak.length m) (v:dw u m ⟨k,a,b⟩) (f:Full u.ak.length m.locals s) (c:iT u m ⟨k,a,b⟩ s=some nx):Full u.ak.length m.locals nx:=by
 have e:=f.tell;unfold iT at c;cases j:fY u m ⟨k,a,b⟩with
 | none=>rw[j]at c;cases c
 | some g =>
  rw[j]at c;simp only at c;have L:=uy o F v j;have h:=vR j;by_cases x:s.stack.length < g.length
  ·rw[if_pos x]at c;cases c
  rw[if_neg x]at c;generalize cU u.ak (s.stack.drop (s.stack.length-g.length)) g=C at c;by_cases y:C=false
  ·rw[if_pos y]at c;cases c
  rw[if_neg y]at c;split at c
  ·cases c
  have q:(s.stack.drop (s.stack.length-g.length)).length=g.length:=by simp;omega
  have p:sS u.ak.length (s.stack.drop (s.stack.length-g.length)):=λt d=>e.2.2.2.2.1 t (List.mem_of_mem_drop d);have B:∀ t∈s.stack.drop (s.stack.length-g.length),t≠0:=λt d=>e.2.2.2.2.2 t (List.mem_of_mem_drop d);generalize K:s.stack.drop (s.stack.length-g.length)=w at c q p B;cases i:fo u ⟨k,a,b⟩ s.locals w with
  | none=>rw[i]at c;cases c
  | some left =>
   rw[i]at c;simp only at c;by_cases z:4 < s.stack.length-g.length+left.length
   ·rw[if_pos z]at c;cases c
   rw[if_neg z]at c;cases c
   have G:=nS o v e.2.2.2.1 p (λD=>by rw[q];exact h.1 O) e.2.1 h.2 i;have H:=Dl o v B (λD=>by rw[q];exact h.1 O) h.2 i;have ty:∀ {t:Int},eA u.ak.length t->ej u.ak.length t:=λE=>by unfold eA at E;unfold ej;omega
   refine⟨.inr ⟨rfl,?_,?_,λt d=>ty ?_,λt d=>?_⟩,rfl⟩
   ·simp only;split
    ·rw[List.length_set];exact e.2.1
    exact e.2.1
   ·simp only[U_,List.length_take];omega
   ·simp only at d;split at d
    ·rename_i I;rcases List.mem_or_eq_of_mem_set d with d|rfl
     ·exact e.2.2.2.1 t d
     have J:=h.1 O;have A:0 < w.length:=by omega
     rw[cI A];exact p _ (x_ A)
    exact e.2.2.2.1 t d
   rcases u_.1 d with d|d
   ·have:=List.mem_of_mem_take d;exact⟨e.2.2.2.2.2 t this,ty (e.2.2.2.2.1 t this)⟩
   exact⟨H t d,ty (G.1 t d)⟩
theorem zo (s:cz) (c:je) (lp o:Option Addr) (p m:Nat) (h:Heap) (g:jL h s lp o p m) (i:s.locals.length<=1000) (A:0<=c.cls/\c.cls<=1000) :
  bq prog 210 [.agg #[.bool s.told,.slice lp s.locals.length p,.slice o s.stack.length m],.agg #[.int .i64 c.lo,.int .i64 c.hi,.int .i64 c.to,.int .i64 c.cls]] h λv f=>h.le f/\sJ f v (bO c.cls s):=by
 refine bE ax func210 Q6 U rfl ?_;conv=>whnf
 refine av ?_;conv=>whnf
 have j:∀ x∈[8+c.cls],cy x:=λx y=>by rw[V_.1 y];unfold cy;omega
 apply T_;all_goals conv=>whnf
 ·refine sR g.1 i (λu z t b d=>?_);conv=>whnf
  refine gQ [8+c.cls] rfl j Z (λq w a e=>?_);conv=>whnf
  exact⟨y_ b a,_,_,_,_,rfl,d.le a,e⟩
 apply T_;all_goals conv=>whnf
 ·refine gQ [8+c.cls] rfl j Z (λq w a e=>?_);conv=>whnf
  refine sR (g.1.le a) i (λu z t b d=>?_);conv=>whnf
  exact⟨y_ a b,_,_,_,_,rfl,d,e.le b⟩
 exact trivial
theorem mo (s:cz) (lp d:Option Addr) (g c:Nat) (h:Heap) (b:jL h s lp d g c) (j:s.locals.length<=1000) (i:s.stack.length<=1000) :
  bq prog 149 [.agg #[.bool s.told,.slice lp s.locals.length g,.slice d s.stack.length c]] h λv a=>h.le a/\sJ a v s:=by
 refine bE ax func149 Ql U rfl ?_;conv=>whnf
 refine sR b.1 j (λt w p e m=>?_);conv=>whnf
 refine sR (b.2.le e) i (λu x q f o=>?_);conv=>whnf
 exact⟨y_ e f,_,_,_,_,rfl,m.le f,o⟩
theorem gR.form {h:Heap} {vs:List Value} {r:cz} (m:gR h vs r):∃ lp e d c,vs=[.bool r.told,.slice lp r.locals.length e,.slice d r.stack.length c]/\jL h r lp d e c:=by
 obtain⟨l,k,rfl,a,b⟩:=m;have i:=a;have j:=b;obtain⟨_,p,f,rfl,_⟩:=i;obtain⟨_,q,g,rfl,_⟩:=j;exact⟨p,f,q,g,rfl,a,b⟩
def Ik (v:Value) (ok:Bool):Prop:=match ok with
 | true=>v=.nilIface
 | false=>∃ s,v=broken s
theorem F8 (w t:List Value) (u:aI) (m:bT) (i:Int) (s:cz) (lp g:Option Addr) (j f:Nat) (h:Heap) (F:dn h w u) (E:dz h t m) (ok:bX u.ak) (G:∀ r∈m.aF,mH u.ak.length m.locals r) (T:0<=i/\i < m.aF.length) (A:jL h s lp g j f) (fs:Full u.ak.length m.locals s) :
  bq prog 209 [.agg ⟨w⟩,.agg ⟨t⟩,.int .i64 i,.agg #[.bool s.told,.slice lp s.locals.length j,.slice g s.stack.length f]] h λv z=>h.le z/\Ik v (dK u m i s):=by
 obtain⟨M,y,aa,S,rfl,C,X,V,W⟩:=F.form;obtain⟨p1,P,p2,Q,p3,a,p4,R,rfl,Y,k2,k3,k4,k5,k6,J,k8,d1,d2,d3,d4⟩:=E.form;have c:i.toNat < m.aF.length:=by omega
 obtain⟨N,os,vs,d,o,p⟩:=J.get c;have D:cF m i=m.aF[i.toNat]:=cI c;have q:=G _ (x_ c);unfold dK;rw[D];generalize m.aF[i.toNat]=r at p q;obtain⟨L,K,I,H,rfl,B⟩:=p.form;have b:=aJ o (i:=0) rfl;cases e:r.told with
 | false =>
  rw[e]at b;refine bE ax func209 JK It rfl ?_;conv=>whnf
  refine ay ?_;conv=>whnf
  refine aL d ?_;conv=>whnf
  refine ld b ?_;conv=>whnf
  exact⟨z_ h,_,rfl⟩
 | true =>
  have a:=vS M y u.ak m.locals s r lp g L I j f K H h C ok fs ⟨q,e⟩ A B;rw[e]at b o a;generalize oS u.ak s r=x at a;refine bE ax func209 JK It rfl ?_;conv=>whnf
  refine ay ?_;conv=>whnf
  refine aL d ?_;conv=>whnf
  refine ld b ?_;conv=>whnf
  refine ay ?_;conv=>whnf
  refine aL d ?_;conv=>whnf
  refine dZ o ?_;conv=>whnf
  refine aP a ?_;cases x with
  | false =>
   conv=>whnf
   exact⟨z_ h,_,rfl⟩
  | true =>
   conv=>whnf
   exact⟨z_ h,rfl⟩
theorem Il (k a b:Int) (h:Heap):Pure prog 208 [.agg #[.int .i64 k,.int .i64 a,.int .i64 b]] h (.bool (cV ⟨k,a,b⟩)):=by
 have d:∀ {x:Bool},(8<=k/\k<=11↔x=true)->Value.bool x=.bool (cV ⟨k,a,b⟩):=λh=>by
  unfold cV;congr 1;rename_i x;cases x<;>simp_all
 refine gF ax func208 Q5 U rfl ?_;conv=>whnf
 by_cases e:8<=k
 ·have c:decide (8<=k)=true:=decide_eq_true e;generalize decide (8<=k)=f at c ⊢;subst c;conv=>whnf
  exact⟨d (by simp;omega),rfl⟩
 have c:decide (8<=k)=false:=decide_eq_false e;generalize decide (8<=k)=f at c ⊢;subst c;conv=>whnf
 exact⟨d (by simp;omega),rfl⟩
theorem Lf (k a b:Int) (h:Heap):Pure prog 150 [.agg #[.int .i64 k,.int .i64 a,.int .i64 b]] h (.bool (eo ⟨k,a,b⟩)):=by
 refine gF ax func150 Qm U rfl ?_;conv=>whnf
 by_cases d:k=11
 ·have c:decide (k=11)=true:=decide_eq_true d;generalize decide (k=11)=f at c ⊢;subst c;conv=>whnf
  exact⟨by unfold eo;rw[decide_eq_true (.inl d)],rfl⟩
 have c:decide (k=11)=false:=decide_eq_false d;generalize decide (k=11)=f at c ⊢;subst c;conv=>whnf
 by_cases e:k=22
 ·have c:decide (k=22)=true:=decide_eq_true e;generalize decide (k=22)=f at c ⊢;subst c;conv=>whnf
  exact⟨by unfold eo;rw[decide_eq_true (.inr (.inl e))],rfl⟩
 have c:decide (k=22)=false:=decide_eq_false e;generalize decide (k=22)=f at c ⊢;subst c;conv=>whnf
 exact⟨by unfold eo;simp[d,e],rfl⟩
theorem B8 (w:World):(Go.binOp .eql 68 .nilIface .nilIface).run prog w=.ok (.bool true) w:=by
 rfl
theorem uz (s:Value) (w:World):(Go.binOp .eql 68 (broken s) .nilIface).run prog w=.ok (.bool false) w:=by
 rfl
def gC (u:aI) (m:bT) (i:Int) (s:cz):Option cz:=match iT u m (bM m i) s with
 | none=>none
 | some a=>if gO u m i s a=true then some a else none
theorem zq (us ms:List Value) (u:aI) (m:bT) (i:Int) (s:cz) (lp Q:Option Addr) (S P:Nat) (h:Heap) (hu:dn h us u) (hm:dz h ms m) (hU:bS u) (hM:gJ u m) (hi:0<=i/\i < m.code.length) (hI:jL h s lp Q S P) (fs:Full u.ak.length m.locals s) :
  bq prog 148 [.agg ⟨us⟩,.agg ⟨ms⟩,.int .i64 i,.agg #[.bool s.told,.slice lp s.locals.length S,.slice Q s.stack.length P]] h λv q=>h.le q/\VT q v (gC u m i s):=by
 have H:=hM.Pj;have I:=fs.tell;have h5:=hU.1.2.1;have si:=H.mi.head.2.2.2.2.1;have su:=H.mi.len;have Hy:=H.num;have Ue:=hM.2.1.2.2.2.2;have yX:i.toNat < m.code.length:=by omega
 have tq:bM m i=m.code[i.toNat]:=cI yX;have hx:=H.mi.code _ (x_ yX);have F9:=λj s' Z0 Z1 Z2 Z3 q (A:h.le q) M Z4 Z5=>F8 us ms u m j s' Z0 Z1 Z2 Z3 q (hu.le A) (hm.le A) hU.1 Ue M Z4 Z5;have Ca:=λM=>hx.jump M;have b:gC u m i s=match iT u m m.code[i.toNat] s with
 | none=>none
 | some nx=>if ((!cV m.code[i.toNat]||dK u m m.code[i.toNat].a nx)&&m.catches.all (λc=>!decide (c.lo<=i/\i<=c.hi-1)||dK u m c.to (bO c.cls s)))=true then some nx else none:=by unfold gC gO;rw[tq]
 obtain⟨ag,cc,ah,af,rfl,hcs,lR,jq,hl2⟩:=hu.form;obtain⟨p1,c1,p2,c2,p3,Gk,p4,c4,rfl,k1,k2,k3,k4,k5,k6,k7,k8,d1,d2,d3,d4⟩:=hm.form;obtain⟨bi,oi,vi,AK,f1,f2,f3⟩:=k6.get yX;subst f2;generalize m.code[i.toNat]=ai at f1 hx Ca b;obtain⟨ik,X,ib⟩:=ai;simp only at f1 Ca;have cp:=A2 _ _ u m ik X ib s lp Q S P h hu hm hU H.mi.head hx hI I.2.1 si I.2.2.1 I.2.2.2.2.1 I.2.2.2.1;have zu:=λnx=>lB (nx:=nx) hU H.mi.head hx fs;generalize gC u m i s=res at b;generalize iT u m ⟨ik,X,ib⟩ s=pr at b cp zu;have LF:=λa=>Il ik X ib a;generalize cV ⟨ik,X,ib⟩=jv at LF b Ca;refine bE ax func148 Qk U rfl ?_;conv=>whnf
 refine ay ?_;conv=>whnf
 refine aL AK ?_;conv=>whnf
 refine dZ f1 ?_;conv=>whnf
 refine aB cp (λv1 G a=>?_);obtain⟨l1,z⟩:=a;cases pr with
 | none =>
  obtain⟨_,_,_,_,_,_,_,x,rfl⟩:=z;conv=>whnf
  refine de rfl rfl (λad=>rfl) (fI x) ?_;conv=>whnf
  rw[b];exact⟨l1,_,_,_,_,_,_,_,_,rfl⟩
 | some nx =>
  obtain⟨Uf,Ug,Uh,Ui,rfl,NH⟩:=z;have fn:=zu nx rfl;simp only at b;conv=>whnf
  refine de rfl rfl (λad=>rfl) j8 ?_;conv=>whnf
  refine au (LF _) ?_;conv=>whnf
  obtain⟨p,sI⟩:∃ Y,Y=(!jv||dK u m X nx):=⟨_,rfl⟩
  rw[<-sI]at b;cases jv with
  | false =>
   have hE:Ik .nilIface p:=by rw[sI];rfl
   conv=>whnf
   refine eF [2,4,5,7,8,11,12,41,42,43] [4,5,7,8,11] (λy:Nat × Heap × Value=>y.1<=m.catches.length/\h.le y.2.1/\G.le y.2.1/\Ik y.2.2 (p&&(m.catches.take y.1).all (λc=>!decide (c.lo<=i/\i<=c.hi-1)||dK u m c.to (bO c.cls s)))) (λy=>m.catches.length-y.1)
    (λy=>([.v (.int .i64 i),.l 4 0,.l 5 0,.l 7 0,.l 8 0,.l 11 0,.v y.2.2,.v (.slice p4 m.catches.length c4),.v (.int .i64 m.catches.length),.v (.int .i64 y.1)],
     [some [.slice ag u.ak.length cc,.slice ah u.methods.length af],some [.int .i64 m.cls,.int .i64 m.eu,.slice p1 m.args.length c1,.int .i64 m.out,.int .i64 m.locals,.slice p2 m.code.length c2,.slice p3 m.aF.length Gk,.slice p4 m.catches.length c4],some [.bool s.told,.slice lp s.locals.length S,.slice Q s.stack.length P],some [.bool false,.slice none 0 0,.slice none 0 0],some [.bool nx.told,.slice Uf nx.locals.length Ug,.slice Uh nx.stack.length Ui]],y.2.1))
    (0,G,.nilIface) ⟨O,l1,by first|exact z_ _|assumption,by simpa using hE⟩ rfl ?_
   rintro⟨j,t,ev⟩ ⟨M,d,w,e⟩;simp only at M d w e ⊢;conv=>whnf
   apply aC<;>intro g2;all_goals conv=>whnf
   ·have N:j < m.catches.length:=by omega
    obtain⟨bb,off,vs,AH,W,w2,w3⟩:=k8.get N;subst w2;have D:=H.mi.cat.2 _ (x_ N);have qI:∀ B:je->Bool,(m.catches.take (j+1)).all B=((m.catches.take j).all B&&B m.catches[j]):=λB=>by
     rw[List.take_add_one,List.all_append,w_ N];simp
    have F:=qI (λc=>!decide (c.lo<=i/\i<=c.hi-1)||dK u m c.to (bO c.cls s));generalize m.catches[j]=ct at W w3 D F;obtain⟨o,g,to,cls⟩:=ct;unfold mI at D;simp only at W D F;obtain⟨⟨_,_,Nz,SY⟩,_,⟨O2,O3⟩,_⟩:=D;have C:=λa=>yx ⟨o,g,to,cls⟩ i a;simp only at C;have Ir:decide (o<=i/\i < g)=decide (o<=i/\i<=g-1):=by
     by_cases aa:o<=i/\i < g
     ·rw[decide_eq_true aa,decide_eq_true O]
     rw[decide_eq_false aa,decide_eq_false O]
    rw[Ir]at C;generalize decide (o<=i/\i<=g-1)=cv at C F;have next:∀(f:Heap) (K:Value),h.le f->G.le f->Ik K ((p&&(m.catches.take j).all (λc=>!decide (c.lo<=i/\i<=c.hi-1)||dK u m c.to (bO c.cls s)))&&(!cv||dK u m to (bO cls s)))->(j+1<=m.catches.length/\h.le f/\G.le f/\Ik K (p&&(m.catches.take (j+1)).all (λc=>!decide (c.lo<=i/\i<=c.hi-1)||dK u m c.to (bO c.cls s)))):=λf K a1 a2 a3=>⟨O,a1,a2,by rw[F,<-Bool.and_assoc];exact a3⟩
    have xj:=eT d _ _ _ W;have ca:=λa (A:h.le a)=>zo s ⟨o,g,to,cls⟩ lp Q S P a (hI.le A) O (by simp only;omega);simp only at ca;generalize (p&&(m.catches.take j).all (λc=>!decide (c.lo<=i/\i<=c.hi-1)||dK u m c.to (bO c.cls s)))=ae at e next;refine ay ?_;conv=>whnf
    refine aL AH ?_;conv=>whnf
    refine dZ xj ?_;conv=>whnf
    cases ae with
    | false =>
     obtain⟨x,rfl⟩:=e;refine de rfl rfl (λad=>rfl) (uz x) ?_;conv=>whnf
     refine av ?_;conv=>whnf
     exact cL (j+1,t,broken x) (next t _ d w ⟨x,rfl⟩) (by simp only;omega) rfl
    | true =>
     cases e
     refine de rfl rfl (λad=>rfl) B8 ?_;conv=>whnf
     refine au (C _) ?_;cases cv with
     | false =>
      conv=>whnf
      refine av ?_;conv=>whnf
      exact cL (j+1,t,.nilIface) (next t _ d w rfl) (by simp only;omega) rfl
     | true =>
      have fc:Full u.ak.length m.locals (bO cls s):=⟨.inr ⟨rfl,I.2.1,by simp[bO],λab b=>by
       have:=I.2.2.2.1 ab b;unfold eA at this;unfold ej;omega,λab b=>by
       rw[V_.1 b];unfold ej;omega⟩,rfl⟩
      have c9:=λT V z J q (A:h.le q) L=>F9 to (bO cls s) T V z J q A ⟨Nz,O⟩ L fc;conv=>whnf
      refine cP (ca t d) (λv7 f a=>?_);obtain⟨E,T,z,V,J,rfl,L⟩:=a;refine⟨E,?_⟩;conv=>whnf
      refine cP (c9 T V z J f (y_ d E) L) (λv8 h8 a=>?_);obtain⟨R,Uj⟩:=a;refine⟨R,?_⟩;conv=>whnf
      refine av ?_;conv=>whnf
      exact cL (j+1,h8,v8) (next h8 _ (y_ d (y_ E R)) (y_ w (y_ E R)) (by rw[Bool.true_and];exact Uj)) (by simp only;omega) rfl
   have Uk:j=m.catches.length:=by omega
   rw[Uk,List.take_length]at e;generalize (p&&m.catches.all (λc=>!decide (c.lo<=i/\i<=c.hi-1)||dK u m c.to (bO c.cls s)))=Y at e b;cases Y with
   | true =>
    cases e
    rw[b];exact⟨d,_,_,_,_,rfl,NH.le w⟩
   | false =>
    obtain⟨x,rfl⟩:=e;rw[b];exact⟨d,_,_,_,_,_,_,_,_,rfl⟩
  | true =>
   have c3:=F9 X nx Uf Uh Ug Ui G l1 (by have:=Ca rfl;omega) NH fn;conv=>whnf
   refine aB c3 (λv2 h2 a=>?_);obtain⟨l2,hE⟩:=a;have O9:=y_ l1 l2;replace hE:Ik v2 p:=by rw[sI];exact hE
   conv=>whnf
   refine eF [2,4,5,7,8,11,12,41,42,43] [4,5,7,8,11] (λy:Nat × Heap × Value=>y.1<=m.catches.length/\h.le y.2.1/\G.le y.2.1/\Ik y.2.2 (p&&(m.catches.take y.1).all (λc=>!decide (c.lo<=i/\i<=c.hi-1)||dK u m c.to (bO c.cls s)))) (λy=>m.catches.length-y.1)
    (λy=>([.v (.int .i64 i),.l 4 0,.l 5 0,.l 7 0,.l 8 0,.l 11 0,.v y.2.2,.v (.slice p4 m.catches.length c4),.v (.int .i64 m.catches.length),.v (.int .i64 y.1)],
     [some [.slice ag u.ak.length cc,.slice ah u.methods.length af],some [.int .i64 m.cls,.int .i64 m.eu,.slice p1 m.args.length c1,.int .i64 m.out,.int .i64 m.locals,.slice p2 m.code.length c2,.slice p3 m.aF.length Gk,.slice p4 m.catches.length c4],some [.bool s.told,.slice lp s.locals.length S,.slice Q s.stack.length P],some [.bool false,.slice none 0 0,.slice none 0 0],some [.bool nx.told,.slice Uf nx.locals.length Ug,.slice Uh nx.stack.length Ui]],y.2.1))
    (0,h2,v2) ⟨O,O9,by first|exact z_ _|assumption,by simpa using hE⟩ rfl ?_
   rintro⟨j,t,ev⟩ ⟨M,d,w,e⟩;simp only at M d w e ⊢;conv=>whnf
   apply aC<;>intro g2;all_goals conv=>whnf
   ·have N:j < m.catches.length:=by omega
    obtain⟨bb,off,vs,AH,W,w2,w3⟩:=k8.get N;subst w2;have D:=H.mi.cat.2 _ (x_ N);have qI:∀ B:je->Bool,(m.catches.take (j+1)).all B=((m.catches.take j).all B&&B m.catches[j]):=λB=>by
     rw[List.take_add_one,List.all_append,w_ N];simp
    have F:=qI (λc=>!decide (c.lo<=i/\i<=c.hi-1)||dK u m c.to (bO c.cls s));generalize m.catches[j]=ct at W w3 D F;obtain⟨o,g,to,cls⟩:=ct;unfold mI at D;simp only at W D F;obtain⟨⟨_,_,Nz,SY⟩,_,⟨O2,O3⟩,_⟩:=D;have C:=λa=>yx ⟨o,g,to,cls⟩ i a;simp only at C;have Ir:decide (o<=i/\i < g)=decide (o<=i/\i<=g-1):=by
     by_cases aa:o<=i/\i < g
     ·rw[decide_eq_true aa,decide_eq_true O]
     rw[decide_eq_false aa,decide_eq_false O]
    rw[Ir]at C;generalize decide (o<=i/\i<=g-1)=cv at C F;have next:∀(f:Heap) (K:Value),h.le f->G.le f->Ik K ((p&&(m.catches.take j).all (λc=>!decide (c.lo<=i/\i<=c.hi-1)||dK u m c.to (bO c.cls s)))&&(!cv||dK u m to (bO cls s)))->(j+1<=m.catches.length/\h.le f/\G.le f/\Ik K (p&&(m.catches.take (j+1)).all (λc=>!decide (c.lo<=i/\i<=c.hi-1)||dK u m c.to (bO c.cls s)))):=λf K a1 a2 a3=>⟨O,a1,a2,by rw[F,<-Bool.and_assoc];exact a3⟩
    have xj:=eT d _ _ _ W;have ca:=λa (A:h.le a)=>zo s ⟨o,g,to,cls⟩ lp Q S P a (hI.le A) O (by simp only;omega);simp only at ca;generalize (p&&(m.catches.take j).all (λc=>!decide (c.lo<=i/\i<=c.hi-1)||dK u m c.to (bO c.cls s)))=ae at e next;refine ay ?_;conv=>whnf
    refine aL AH ?_;conv=>whnf
    refine dZ xj ?_;conv=>whnf
    cases ae with
    | false =>
     obtain⟨x,rfl⟩:=e;refine de rfl rfl (λad=>rfl) (uz x) ?_;conv=>whnf
     refine av ?_;conv=>whnf
     exact cL (j+1,t,broken x) (next t _ d w ⟨x,rfl⟩) (by simp only;omega) rfl
    | true =>
     cases e
     refine de rfl rfl (λad=>rfl) B8 ?_;conv=>whnf
     refine au (C _) ?_;cases cv with
     | false =>
      conv=>whnf
      refine av ?_;conv=>whnf
      exact cL (j+1,t,.nilIface) (next t _ d w rfl) (by simp only;omega) rfl
     | true =>
      have fc:Full u.ak.length m.locals (bO cls s):=⟨.inr ⟨rfl,I.2.1,by simp[bO],λab b=>by
       have:=I.2.2.2.1 ab b;unfold eA at this;unfold ej;omega,λab b=>by
       rw[V_.1 b];unfold ej;omega⟩,rfl⟩
      have c9:=λT V z J q (A:h.le q) L=>F9 to (bO cls s) T V z J q A ⟨Nz,O⟩ L fc;conv=>whnf
      refine cP (ca t d) (λv7 f a=>?_);obtain⟨E,T,z,V,J,rfl,L⟩:=a;refine⟨E,?_⟩;conv=>whnf
      refine cP (c9 T V z J f (y_ d E) L) (λv8 h8 a=>?_);obtain⟨R,Uj⟩:=a;refine⟨R,?_⟩;conv=>whnf
      refine av ?_;conv=>whnf
      exact cL (j+1,h8,v8) (next h8 _ (y_ d (y_ E R)) (y_ w (y_ E R)) (by rw[Bool.true_and];exact Uj)) (by simp only;omega) rfl
   have Uk:j=m.catches.length:=by omega
   rw[Uk,List.take_length]at e;generalize (p&&m.catches.all (λc=>!decide (c.lo<=i/\i<=c.hi-1)||dK u m c.to (bO c.cls s)))=Y at e b;cases Y with
   | true =>
    cases e
    rw[b];exact⟨d,_,_,_,_,rfl,NH.le w⟩
   | false =>
    obtain⟨x,rfl⟩:=e;rw[b];exact⟨d,_,_,_,_,_,_,_,_,rfl⟩
theorem xG (o:List Value) (m:bT) (n:Nat) (h:Heap) (t:dz h o m) (e:eC n m) (N:n<=5) :
  bq prog 146 [.agg ⟨o⟩] h λv p=>h.le p/\sJ p v (dF m):=by
 have Ae:=e.2.2.2.2.2;have si:=e.2.2.2.2.1;have Tt:=e.2.1;have Q:=jM e N;have su:m.cls<=100:=by have:=e.1;omega
 have I:=λj (K:h.le j)=>wA o m j (t.le K) O O;obtain⟨p1,T,p2,B,p3,V,p4,W,rfl,k1,k2,k3,k4,k5,k6,k7,k8,d1,d2,d3,d4⟩:=t.form;obtain⟨k,hk⟩:∃ k:Nat,(k:Int)=m.locals:=⟨m.locals.toNat,O⟩
 refine bE ax func146 Qi U rfl ?_;conv=>whnf
 refine ob ⟨rfl,O,by show m.locals*((8:Nat):Int)<=_;omega,O⟩ ?_;conv=>whnf
 refine cZ ((List.replicate k 0).map (Value.int .i64)) (by rw[show m.locals.toNat=k by omega,List.flatten_replicate_singleton,List.map_replicate]) (λb E F Y w C=>?_);conv=>whnf
 refine aB (I E w) (λv2 d j=>?_);obtain⟨x,S,own,No⟩:=j;obtain⟨z,X,rfl,_⟩:=own.form;have u:m.locals.toNat=k:=by omega
 have D:d b=some (.cells ((List.replicate k 0).map (Value.int .i64)).toArray 3 (0,0)):=x _ _ C;have L:((br m).map bD).length=(br m).length:=by simp
 have M:Nat.min ((br m).map bD).length m.locals.toNat*1=(br m).length:=by rw[L,Nat.mul_one];exact Nat.min_eq_left O
 have J:(z=none/\(br m).map (Value.int .i64)=[])\/∃ g y,z=some ⟨g,y,none⟩/\dP d g y (Nat.min ((br m).map bD).length m.locals.toNat*1)=some ((br m).map (Value.int .i64)):=by
  rw[M];obtain⟨_,⟨f,R,_⟩|⟨g,B,rest,A,f,_,i,_,_⟩⟩:=own
  ·simp only[Z_]at f;exact .inl ⟨f.1,by rw[<-dj,R];rfl⟩
  simp only[Z_]at f;refine .inr ⟨g,0,f.1,?_⟩;rw[dj]at i;rw[bA i _ _ (by simp only[U_,List.length_map];omega),List.drop_zero];have:=List.take_left (l₁:=(br m).map (Value.int .i64)) (l₂:=rest);rw[List.length_map]at this;rw[this]
 conv=>whnf
 have G:eH ((List.replicate k 0).map (Value.int .i64)) 0 ((br m).map (Value.int .i64))=(dF m).locals.map (Value.int .i64):=by
  have:=fE ((br m).map (Value.int .i64)) [] ((List.replicate k 0).map (Value.int .i64)) (by simp;omega);simp only[List.nil_append,List.length_nil]at this;rw[this];unfold dF;simp only[List.map_append,List.length_map];congr 1
  rw[<-List.map_drop,List.drop_replicate,u]
 refine zX (vs:=(br m).map (Value.int .i64)) ax rfl rfl rfl rfl rfl J D (by simp;omega) (cR _) ?_;rw[G];have i:h b=none:=F;have s:h.le (d.set b (.cells ((dF m).locals.map (Value.int .i64)).toArray 3 (0,0))):=Heap.aT (y_ w x) i;have H:(d.set b (.cells ((dF m).locals.map (Value.int .i64)).toArray 3 (0,0))) b=some (.cells ((dF m).locals.map (Value.int .i64)++[]).toArray 3 (0,0)):=by rw[List.append_nil];exact cY _ _ _
 have P:(dF m).locals.length=k:=by unfold dF;simp;omega
 have q:=gA (c:=k) H O O (λA a=>by
  unfold dF at a;rcases u_.1 a with a|a
  ·have:=Q A a;unfold cy;omega
  rw[List.eq_of_mem_replicate a];unfold cy;omega)
 generalize d.set b (.cells ((dF m).locals.map (Value.int .i64)).toArray 3 (0,0))=h3 at s q ⊢;conv=>whnf
 refine⟨s,_,_,_,_,?_,q,dX _ none 0⟩;rw[u,P];rfl
theorem uA {n:Nat} {m:bT} (b:eC n m) (d:n<=5):Full n m.locals (dF m):=by
 have c:=kT b d;have e:=jM b d;refine⟨.inr ⟨rfl,c.loc,c.len,λt a=>?_,λt a=>by cases a⟩,rfl⟩;rcases u_.1 a with a|a
 ·unfold br at a;rcases u_.1 a with a|a
  ·split at a
   ·rw[V_.1 a];have:=b.1;unfold ej;omega
   cases a
  have:=b.2.2.2.1 t a;unfold bL at this;unfold ej;omega
 rw[List.eq_of_mem_replicate a];unfold ej;omega
theorem mq {P:Program} {f:FuncId} {args:List Value} {h:Heap} {L:List Nat} {K:Value->Heap->Prop} {E:List PanicEntry->Heap->Prop} {R:Value->Heap->Prop} (d:∀ b∈L,∃ o,h b=some o) (e:bq P f args (cG h L) λv a=>(cG h L).le a/\R v a)
  (g:∀ v a,h.le a->(cG h L).le (cG a L)->R v (cG a L)->K v a):Go.Vc.Call P f args h K E:=aB (uh d e) λv a c=>g v a (BP c.2.1 c.1) c.2.1 c.2.2
structure jR {α:Type} (sz:Nat) (R:Heap->List Value->α->Prop) (h0 h:Heap) (v:Value) (L:List Nat) (A:List α):Prop where
 le:h0.le h
 fr:∀ b∈L,h0 b=none
 row:∃ recs,bY sz h v recs L/\recs.length=A.length/\∀ i (h1:i < recs.length) (h2:i < A.length),R (cG h L) recs[i] A[i]
theorem jR.hle {b:Type} {sz:Nat} {R:Heap->List Value->b->Prop} {h0 h:Heap} {v:Value} {L:List Nat} {A:List b} (a:jR sz R h0 h v L A):h0.le (cG h L):=qm a.le a.fr
theorem jR.in {c:Type} {sz:Nat} {R:Heap->List Value->c->Prop} {h0 h:Heap} {v:Value} {L:List Nat} {A:List c} (a:jR sz R h0 h v L A):∀ b∈L,∃ o,h b=some o:=by
 obtain⟨f,e,_⟩:=a.row;exact λb d=>e.in b d
theorem jR.aK {d:Type} {sz:Nat} {R:Heap->List Value->d->Prop} {h0 h c:Heap} {v:Value} {L:List Nat} {A:List d} (g:y5 R) (a:jR sz R h0 h v L A) (b:h.le c):jR sz R h0 c v L A:=by
 obtain⟨p,j,i,m⟩:=a.row;exact⟨y_ a.le b,a.fr,p,j.aK (cS.of_le b _),i,λo e f=>g _ _ _ _ (dg L b) (m o e f)⟩
theorem jR.start {c:Type} {sz:Nat} {R:Heap->List Value->c->Prop} {h0 h:Heap} (b:h0.le h):jR sz R h0 h (.slice none 0 0) [] []:=⟨b,Z,[],⟨Z,.inl ⟨rfl,rfl,rfl⟩⟩,rfl,λi a=>by simp at a⟩
theorem jR.app {q:Type} {sz:Nat} {R:Heap->List Value->q->Prop} {h0 h:Heap} {p:Option Addr} {c n bytes:Nat} {L:List Nat} {A:List q} {zero:List Value} {z:TypeId} {vs:List Value} {s:q} {K:Value->Heap->Prop} (u:y5 R) (a:jR sz R h0 h (.slice p n c) L A) (Q:R (cG h L) vs s) (P:vs.length=sz) (E:dI vs=true) (hA:A.length<=1000) (S:zero.length=sz) (D:bytes<=100)
  (H:∀ g f e t,jR sz R h0 e (.slice g (A.length+1) f) t (A++[s])->(cG h L).le (cG e t)->K (.slice g (A.length+1) f) e):App bytes sz zero z h p n c 1 vs K:=by
 obtain⟨d,M,w,N⟩:=a.row;have hm:(d.length + [vs].length)*bytes<=1001*100:=Nat.mul_le_mul (by simp;omega) D;refine dh (h0:=h0) (xs:=d) (ys:=[vs]) (B:=L) M a.fr a.le Z rfl (by simpa using P) E S O (by simp;omega) ?_;intro v' e i T o W X Y;have V:=o;obtain⟨g,f,rfl,_⟩:=V.form;have I:(d++[vs]).length=A.length+1:=by simp[w]
 rw[I]at o ⊢;have hle:(cG h L).le (cG e i):=λx aa b=>by
  unfold cG at b ⊢;split at b
  ·cases b
  rename_i y;have J:x ∉ i:=λF=>by
   rcases Y x F with j|j
   ·exact y j
   rw[j]at b;cases b
  rw[if_neg J,X x y (by rw[b];simp)];exact b
 refine H g f e i ⟨T,W,d++[vs],o,by simp[w],λm C h2=>?_⟩ hle;by_cases v:m < d.length
 ·rw[List.getElem_append_left v,List.getElem_append_left O];exact u _ _ _ _ hle (N m v O)
 have G:m=d.length:=by simp at C;omega
 subst G;rw[List.getElem_append_right (Nat.le_refl _),List.getElem_append_right O];simp only[Nat.sub_self,List.getElem_cons_zero];have:d.length-A.length=0:=by omega
 simp only[this,List.getElem_cons_zero];exact u _ _ _ _ hle Q
theorem jR.oA {q:Type} {sz:Nat} {R:Heap->List Value->q->Prop} {h0 h:Heap} {p:Option Addr} {n c:Nat} {L:List Nat} {A:List q} (t:y5 R) (a:jR sz R h0 h (.slice p n c) L A) (J:A.length<=1000):Row sz R h (.slice p n c) A:=by
 obtain⟨b,g,f,C⟩:=a.row;have z:=g;obtain⟨M,⟨d,rfl,_⟩|⟨e,E,rest,P,d,I,H,K,_⟩⟩:=z
 ·simp only[Z_]at d;obtain⟨rfl,rfl,rfl⟩:=d;have:A=[]:=List.eq_nil_of_length_eq_zero (by simpa using f.symm);subst this;exact⟨Z,none,0,rfl,Z,.inl rfl⟩
 simp only[Z_]at d;obtain⟨rfl,rfl,rfl⟩:=d;refine⟨O,some ⟨e,0,none⟩,c,by rw[f],O,.inr ⟨e,0,rfl,λi S v=>?_⟩⟩;obtain⟨s,rfl⟩:=List.getElem?_eq_some_iff.1 v;have w:i < b.length:=by omega
 have x:b=b.take i++b[i]::b.drop (i+1):=by simp
 have y:bY sz h (.slice (some ⟨e,0,none⟩) b.length c) (b.take i++b[i]::b.drop (i+1)) L:=by rw[<-x];exact g
 obtain⟨D,F,pre,post,Q,m,u,B,o,G,N⟩:=y.at;simp only[Z_,v_,Addr.mk.injEq]at m;obtain⟨⟨rfl,_⟩,_,rfl⟩:=m;have j:pre.length=i*sz:=by rw[B,List.length_take,Nat.min_eq_left O]
 refine⟨b[i],?_,t _ _ _ _ (nh h L) (C i w s)⟩;rw[bA u sz (0+i*sz) (by simp[j,o])];rw[List.append_assoc,Nat.zero_add,<-j,List.drop_left,List.take_left' o]
abbrev Ul:=jR 3 gR
theorem gq:y5 gR:=λ_ _ _ _ a h=>h.le a
def Um (h:Heap) (v:Value) (r:List cz × Bool):Prop:=match r.2 with
 | false=>∃ b s,v=.tuple #[b,broken s]
 | true=>∃ a,v=.tuple #[a,.nilIface]/\Row 3 gR h a r.1
theorem rC {u:aI} {m:bT} {k:Nat} {i:Int} {s:cz} {out:List cz} (b:iT u m (bM m i) s=stepT u m (bM m i) s):AL u m k i s out=match gC u m i s with
 | none=>(out++[s],false)
 | some a=>cB u m k (i+1) a (!eo (bM m i)) (out++[s]):=by
 unfold AL gC;rw[b];cases stepT u m (bM m i) s with
 | none=>rfl
 | some a =>
  simp only;by_cases h:gO u m i s a=true
  ·rw[if_pos h,if_pos h]
  rw[if_neg h,if_neg h]
theorem xH (us ms:List Value) (u:aI) (m:bT) (h:Heap) (hu:dn h us u) (hm:dz h ms m) (A:bS u) (M:gJ u m) :
  bq prog 64 [.agg ⟨us⟩,.agg ⟨ms⟩] h λv h'=>h.le h'/\Um h' v (bK u m):=by
 have t:=M.Pj;have sH:=A.1.2.1;have si:=t.mi.head.2.2.2.2.1;have su:=t.mi.len;have Hy:=t.num;have Ue:=M.2.1.2.2.2.2;have oU:=λp (hl:h.le p)=>xG ms m u.ak.length p (hm.le hl) t.mi.head sH;have LA:=uA t.mi.head sH;have oV:=λi s lp G H F p (hl:h.le p) hi hI fs=>zq us ms u m i s lp G H F p (hu.le hl) (hm.le hl) A M hi hI fs;obtain⟨ad,cc,af,ae,rfl,hcs,lR,jq,hl2⟩:=hu.form;obtain⟨p1,c1,p2,c2,p3,c3,p4,c4,rfl,k1,k2,k3,k4,k5,k6,k7,k8,d1,d2,d3,d4⟩:=hm.form;refine bE ax func64 WM U rfl ?_;conv=>whnf
 refine aB (oU h (z_ h)) (λv1 h1 p=>?_);obtain⟨l1,q1,e1,q2,e2,rfl,Z6⟩:=p;conv=>whnf
 have Un:jL (cG h1 []) (dF m) q1 q2 e1 e2:=by
  have:cG h1 []=h1:=by funext x;simp[cG]
  rw[this];exact Z6
 refine eF [2,3,6,7,8,17,18,19] [2,3,7] (λy:Nat × Heap × (Option Addr × Nat × List Nat × List cz) × (cz × Option Addr × Nat × Option Addr × Nat) × Bool=>y.1<=m.code.length/\Ul h y.2.1 (.slice y.2.2.1.1 y.1 y.2.2.1.2.1) y.2.2.1.2.2.1 y.2.2.1.2.2.2/\y.2.2.1.2.2.2.length=y.1/\jL (cG y.2.1 y.2.2.1.2.2.1) y.2.2.2.1.1 y.2.2.2.1.2.1 y.2.2.2.1.2.2.2.1 y.2.2.2.1.2.2.1 y.2.2.2.1.2.2.2.2/\Full u.ak.length m.locals y.2.2.2.1.1/\bK u m=cB u m (m.code.length-y.1) y.1 y.2.2.2.1.1 y.2.2.2.2 y.2.2.1.2.2.2) (λy=>m.code.length-y.1)
  (λy=>([.l 2 0,.l 3 0,.v (.slice y.2.2.1.1 y.1 y.2.2.1.2.1),.l 7 0,.v (.bool y.2.2.2.2),.v (.slice p2 m.code.length c2),.v (.int .i64 m.code.length),.v (.int .i64 y.1)],
   [some [.slice ad u.ak.length cc,.slice af u.methods.length ae],some [.int .i64 m.cls,.int .i64 m.eu,.slice p1 m.args.length c1,.int .i64 m.out,.int .i64 m.locals,.slice p2 m.code.length c2,.slice p3 m.aF.length c3,.slice p4 m.catches.length c4],some [.bool y.2.2.2.1.1.told,.slice y.2.2.2.1.2.1 y.2.2.2.1.1.locals.length y.2.2.2.1.2.2.1,.slice y.2.2.2.1.2.2.2.1 y.2.2.2.1.1.stack.length y.2.2.2.1.2.2.2.2]],y.2.1))
  (0,h1,(none,0,[],[]),(dF m,q1,e1,q2,e2),true) ⟨O,jR.start l1,rfl,Un,LA,rfl⟩ rfl ?_
 rintro⟨i,J,⟨po,co,L,out⟩,⟨s,q3,e3,q4,e4⟩,comes⟩ ⟨hi,c,n3,Dy,hs,N⟩;simp only at hi c n3 Dy hs N ⊢;subst n3;conv=>whnf
 apply aC<;>intro ab;all_goals conv=>whnf
 ·have yX:out.length < m.code.length:=by omega
  have Gi:out.length < m.aF.length:=by omega
  obtain⟨bi,oi,vi,AK,f1,f2,f3⟩:=k6.get yX;subst f2;have P:bM m (out.length:Int)=m.code[out.length]:=cI (by simpa using yX);obtain⟨bs,os,lp,H,G,F,Dv,w1,w2,hJ⟩:=xl k7 Gi;have NI:cF m (out.length:Int)=m.aF[out.length]:=cI (by simpa using Gi);have Uo:=Ue _ (x_ Gi);have Fg:=eT c.le _ _ _ f1;have xj:=eT c.le _ _ _ w1;have KE:jL (cG J L) m.aF[out.length] lp G H F:=hJ.le c.hle;have IV:m.code.length-out.length=(m.code.length-(out.length+1))+1:=by omega
  rw[IV]at N;have I:=λht=>qh (u:=u) (m:=m) (k:=m.code.length-(out.length+1)) (i:=out.length) (s:=s) (comes:=comes) (out:=out) ht;have Q:=λht=>rU (u:=u) (m:=m) (k:=m.code.length-(out.length+1)) (i:=out.length) (s:=s) (comes:=comes) (out:=out) ht;rw[<-N,NI]at I Q;generalize m.aF[out.length]=r at xj KE Uo I Q;have Gp:=λp=>Lf m.code[out.length].kind m.code[out.length].a m.code[out.length].b p;change ∀ p,Pure _ _ _ p (.bool (eo m.code[out.length]))at Gp
  have Up:=λht:r.told=true=>vS ad cc u.ak m.locals s r q3 q4 lp G e3 e4 H F J (hcs.le c.le (λ_ _ z=>z.le c.le)) A.1 hs ⟨Uo,ht⟩ (Dy.le (nh J L)) (KE.le (nh J L));refine ay ?_;conv=>whnf
  refine aL AK ?_;conv=>whnf
  refine dZ Fg ?_;conv=>whnf
  refine ay ?_;conv=>whnf
  refine aL Dv ?_;conv=>whnf
  refine dZ xj ?_;obtain⟨rt,j,g⟩:=r;cases rt with
  | false =>
   have Q:=Q rfl;cases comes with
   | false =>
    conv=>whnf
    rw[Q];exact⟨c.le,_,_,rfl⟩
   | true =>
    conv=>whnf
    have w:=hs;have K:=Dy;have d:bK u m=AL u m (m.code.length-(out.length+1)) out.length s out:=Q;have z:dw u m (bM m (out.length:Int)):=by rw[P];exact t.mi.code _ (x_ yX)
    have f:=w.tell;have HQ:=nQ A M z f.1 f.2.2.1 f.2.2.2.2.2;have EF:=λnx=>lB (k:=(bM m (out.length:Int)).kind) (a:=(bM m (out.length:Int)).a) (b:=(bM m (out.length:Int)).b) (nx:=nx) A t.mi.head z w;have Om:=rC (k:=m.code.length-(out.length+1)) (out:=out) HQ;rw[Om]at d;have D:=oV (out.length:Int) s q3 q4 e3 e4 (cG J L) c.hle ⟨O,ab⟩ K w;have E:∀ nx,gC u m (out.length:Int) s=some nx->Full u.ak.length m.locals nx:=λnx e=>by
     unfold gC at e;cases q:iT u m (bM m (out.length:Int)) s with
     | none=>rw[q]at e;cases e
     | some y =>
      rw[q]at e;simp only at e;split at e
      ·cases e;exact EF _ q
      cases e
    generalize gC u m (out.length:Int) s=res at D d E;refine mq c.in D (λv4 W l4 LS B=>?_);have o:=c.aK gq l4;have Ga:=K.le LS;cases res with
    | none =>
     obtain⟨_,_,_,_,_,_,_,s1,rfl⟩:=B;conv=>whnf
     refine de rfl rfl (λaa=>rfl) (fI s1) ?_;conv=>whnf
     rw[d];exact⟨o.le,_,_,rfl⟩
    | some nx =>
     obtain⟨np,On,nk,Oo,rfl,Oq⟩:=B;have Y:=E nx rfl;simp only at d;conv=>whnf
     refine de rfl rfl (λaa=>rfl) j8 ?_;conv=>whnf
     refine mq o.in (mo s q3 q4 e3 e4 (cG W L) Ga (by have:=f.2.1;omega) (by have:=f.2.2.1;omega)) (λv5 h5 l5 Ot hR=>?_);obtain⟨yp,yc,yk,VZ,rfl,C⟩:=hR;have S:=o.aK gq l5;have Gc:=Oq.le Ot;conv=>whnf
     refine jR.app gq S ⟨_,_,rfl,C.1,C.2⟩ rfl rfl O rfl (Nat.le_of_ble_eq_true rfl) (λLg V X R T l6=>?_);have Gd:=Gc.le l6;conv=>whnf
     refine aP (Gp _) ?_;conv=>whnf
     refine av ?_;conv=>whnf
     refine cL (out.length+1,X,(Lg,V,R,out++[s]),(nx,np,On,nk,Oo),!eo m.code[out.length]) ⟨O,T,Z,Gd,Y,by rw[d,P];rfl⟩ (by simp only;omega) rfl
  | true =>
   have I:=I rfl;have Up:=Up rfl;have w:Full u.ak.length m.locals ⟨true,j,g⟩:=⟨Uo,rfl⟩
   have K:=KE;cases comes with
   | false =>
    have d:bK u m=AL u m (m.code.length-(out.length+1)) out.length ⟨true,j,g⟩ out:=by rw[I,if_neg Z]
    conv=>whnf
    have z:dw u m (bM m (out.length:Int)):=by rw[P];exact t.mi.code _ (x_ yX)
    have f:=w.tell;have HQ:=nQ A M z f.1 f.2.2.1 f.2.2.2.2.2;have EF:=λnx=>lB (k:=(bM m (out.length:Int)).kind) (a:=(bM m (out.length:Int)).a) (b:=(bM m (out.length:Int)).b) (nx:=nx) A t.mi.head z w;have Om:=rC (k:=m.code.length-(out.length+1)) (out:=out) HQ;rw[Om]at d;have D:=oV (out.length:Int) ⟨true,j,g⟩ lp G H F (cG J L) c.hle ⟨O,ab⟩ K w;have E:∀ nx,gC u m (out.length:Int) ⟨true,j,g⟩=some nx->Full u.ak.length m.locals nx:=λnx e=>by
     unfold gC at e;cases q:iT u m (bM m (out.length:Int)) ⟨true,j,g⟩with
     | none=>rw[q]at e;cases e
     | some y =>
      rw[q]at e;simp only at e;split at e
      ·cases e;exact EF _ q
      cases e
    generalize gC u m (out.length:Int) ⟨true,j,g⟩=res at D d E;refine mq c.in D (λv4 W l4 LS B=>?_);have o:=c.aK gq l4;have Ga:=K.le LS;cases res with
    | none =>
     obtain⟨_,_,_,_,_,_,_,s1,rfl⟩:=B;conv=>whnf
     refine de rfl rfl (λaa=>rfl) (fI s1) ?_;conv=>whnf
     rw[d];exact⟨o.le,_,_,rfl⟩
    | some nx =>
     obtain⟨np,On,nk,Oo,rfl,Oq⟩:=B;have Y:=E nx rfl;simp only at d;conv=>whnf
     refine de rfl rfl (λaa=>rfl) j8 ?_;conv=>whnf
     refine mq o.in (mo ⟨true,j,g⟩ lp G H F (cG W L) Ga (by have:=f.2.1;omega) (by have:=f.2.2.1;omega)) (λv5 h5 l5 Ot hR=>?_);obtain⟨yp,yc,yk,VZ,rfl,C⟩:=hR;have S:=o.aK gq l5;have Gc:=Oq.le Ot;conv=>whnf
     refine jR.app gq S ⟨_,_,rfl,C.1,C.2⟩ rfl rfl O rfl (Nat.le_of_ble_eq_true rfl) (λLg V X R T l6=>?_);have Gd:=Gc.le l6;conv=>whnf
     refine aP (Gp _) ?_;conv=>whnf
     refine av ?_;conv=>whnf
     refine cL (out.length+1,X,(Lg,V,R,out++[⟨true,j,g⟩]),(nx,np,On,nk,Oo),!eo m.code[out.length]) ⟨O,T,Z,Gd,Y,by rw[d,P];rfl⟩ (by simp only;omega) rfl
   | true =>
    conv=>whnf
    refine au Up ?_;cases oh:oS u.ak s ⟨true,j,g⟩with
    | false =>
     rw[if_pos ⟨rfl,oh⟩]at I;conv=>whnf
     rw[I];exact⟨c.le,_,_,rfl⟩
    | true =>
     have d:bK u m=AL u m (m.code.length-(out.length+1)) out.length ⟨true,j,g⟩ out:=by rw[I,if_neg (by rw[oh];simp)]
     conv=>whnf
     have z:dw u m (bM m (out.length:Int)):=by rw[P];exact t.mi.code _ (x_ yX)
     have f:=w.tell;have HQ:=nQ A M z f.1 f.2.2.1 f.2.2.2.2.2;have EF:=λnx=>lB (k:=(bM m (out.length:Int)).kind) (a:=(bM m (out.length:Int)).a) (b:=(bM m (out.length:Int)).b) (nx:=nx) A t.mi.head z w;have Om:=rC (k:=m.code.length-(out.length+1)) (out:=out) HQ;rw[Om]at d;have D:=oV (out.length:Int) ⟨true,j,g⟩ lp G H F (cG J L) c.hle ⟨O,ab⟩ K w;have E:∀ nx,gC u m (out.length:Int) ⟨true,j,g⟩=some nx->Full u.ak.length m.locals nx:=λnx e=>by
      unfold gC at e;cases q:iT u m (bM m (out.length:Int)) ⟨true,j,g⟩with
      | none=>rw[q]at e;cases e
      | some y =>
       rw[q]at e;simp only at e;split at e
       ·cases e;exact EF _ q
       cases e
     generalize gC u m (out.length:Int) ⟨true,j,g⟩=res at D d E;refine mq c.in D (λv4 W l4 LS B=>?_);have o:=c.aK gq l4;have Ga:=K.le LS;cases res with
     | none =>
      obtain⟨_,_,_,_,_,_,_,s1,rfl⟩:=B;conv=>whnf
      refine de rfl rfl (λaa=>rfl) (fI s1) ?_;conv=>whnf
      rw[d];exact⟨o.le,_,_,rfl⟩
     | some nx =>
      obtain⟨np,On,nk,Oo,rfl,Oq⟩:=B;have Y:=E nx rfl;simp only at d;conv=>whnf
      refine de rfl rfl (λaa=>rfl) j8 ?_;conv=>whnf
      refine mq o.in (mo ⟨true,j,g⟩ lp G H F (cG W L) Ga (by have:=f.2.1;omega) (by have:=f.2.2.1;omega)) (λv5 h5 l5 Ot hR=>?_);obtain⟨yp,yc,yk,VZ,rfl,C⟩:=hR;have S:=o.aK gq l5;have Gc:=Oq.le Ot;conv=>whnf
      refine jR.app gq S ⟨_,_,rfl,C.1,C.2⟩ rfl rfl O rfl (Nat.le_of_ble_eq_true rfl) (λLg V X R T l6=>?_);have Gd:=Gc.le l6;conv=>whnf
      refine aP (Gp _) ?_;conv=>whnf
      refine av ?_;conv=>whnf
      refine cL (out.length+1,X,(Lg,V,R,out++[⟨true,j,g⟩]),(nx,np,On,nk,Oo),!eo m.code[out.length]) ⟨O,T,Z,Gd,Y,by rw[d,P];rfl⟩ (by simp only;omega) rfl
 have mC:out.length=m.code.length:=by omega
 rw[mC,Nat.sub_self,cB]at N;cases comes with
 | true =>
  conv=>whnf
  rw[N];exact⟨c.le,_,_,rfl⟩
 | false =>
  conv=>whnf
  rw[N];exact⟨c.le,_,rfl,c.oA gq (show out.length<=1000 by omega)⟩
def Dm (h:Heap) (x:List Value) (A:List cz):Prop:=∃ v,x=[v]/\Row 3 gR h v A
theorem nr:y5 Dm:=λ_ _ _ _ a ⟨v,e,h⟩=>⟨v,e,h.le a λ_ _ b=>b.le a⟩
def sy (u:aI):List (List cz):=u.methods.map λm=>(bK u m).1
theorem xI (p:List Value) (u:aI) (h:Heap) (C:dn h p u) (o:bS u) (hG:GlE h) :
  bq prog 29 [.agg ⟨p⟩] h λv H=>h.le H/\∃ f,v=.tuple #[f,tf (nj u)]/\(nj u->Row 1 Dm H f (sy u)):=by
 have L:=yw p u h C;rw[eg o]at L;have V0:u.methods.length<=1000:=by have:=o.2;omega
 have Z7:=λP m z (hl:h.le z) (B:m∈u.methods) (hr:dz z P m)=>xH p P u m z (C.le hl) hr o (o.2.2.2.1 m B);obtain⟨aa,W,Q,F,rfl,hcs,lR,jq,hl2⟩:=C.form;refine bE ax func29 PE Mj rfl ?_;conv=>whnf
 refine au L ?_;conv=>whnf
 refine eF [1,4,13,14,15] [1] (λy:Nat × Heap × (Option Addr × Nat × List Nat × List (List cz))=>y.1<=u.methods.length/\jR 1 Dm h y.2.1 (.slice y.2.2.1 y.1 y.2.2.2.1) y.2.2.2.2.1 y.2.2.2.2.2/\y.2.2.2.2.2=(u.methods.take y.1).map (λm=>(bK u m).1)/\∀ j (b:j < u.methods.length),j < y.1->(bK u u.methods[j]).2=true) (λy=>u.methods.length-y.1)
  (λy=>([.l 1 0,.v (.slice y.2.2.1 y.1 y.2.2.2.1),.v (.slice Q u.methods.length F),.v (.int .i64 u.methods.length),.v (.int .i64 y.1)],[some [.slice aa u.ak.length W,.slice Q u.methods.length F]],y.2.1))
  (0,h,none,0,[],[]) ⟨O,jR.start (z_ h),rfl,λj b hx=>by simp only at hx;omega⟩ rfl ?_
 rintro⟨i,h3,po,co,T,A⟩ ⟨hi,a,c,t⟩;simp only at hi a c t ⊢;conv=>whnf
 apply aC<;>intro Y;all_goals conv=>whnf
 ·have d:i < u.methods.length:=by omega
  obtain⟨bm,om,vm,Uq,r1,R⟩:=lR.get d;have K:u.methods[i]∈u.methods:=x_ d;have M:=Z7 vm u.methods[i] (cG h3 T) a.hle K (R.le a.hle);obtain⟨x1,y1,x2,y2,x3,y3,x4,y4,rfl,_⟩:=R.form;have RY:=eT a.le _ _ _ r1;have D:(u.methods.take (i+1)).map (λm=>(bK u m).1)=A++[(bK u u.methods[i]).1]:=by
   rw[List.take_add_one,List.map_append,<-c,w_ d];rfl
  have w:(bK u u.methods[i]).2=true->∀ j (b:j < u.methods.length),j < i+1->(bK u u.methods[j]).2=true:=λg j b GL=>by
   rcases Nat.lt_succ_iff_lt_or_eq.1 GL with G7|rfl
   ·exact t j b G7
   exact g
  have bad:(bK u u.methods[i]).2=false->¬nj u:=λg e=>by rw[e _ K]at g;cases g
  obtain⟨G,N6⟩:=hG;have VL:A.length=i:=by rw[c];simp;omega
  generalize bK u u.methods[i]=S at M D w bad;obtain⟨f,sb⟩:=S;simp only at D w bad;refine ay ?_;conv=>whnf
  refine aL Uq ?_;conv=>whnf
  refine dZ RY ?_;conv=>whnf
  refine mq a.in M (λv4 I l4 LS J=>?_);have q:=a.aK nr l4;have x:=cW q.le N6;cases sb with
  | false =>
   obtain⟨a1,s1,rfl⟩:=J;conv=>whnf
   refine ld x ?_;conv=>whnf
   refine au (A1 s1 G I x) ?_;conv=>whnf
   rw[cD (bad rfl)];exact⟨q.le,_,rfl,λe=>absurd e (bad rfl)⟩
  | true =>
   obtain⟨sv,rfl,N⟩:=J;have Ge:=N;obtain⟨_,S,sc,rfl,_⟩:=Ge;conv=>whnf
   refine ld x ?_;conv=>whnf
   refine au (Ig G I) ?_;conv=>whnf
   refine jR.app nr q (s:=f) ⟨_,rfl,N⟩ rfl rfl O rfl (Nat.le_of_ble_eq_true rfl) (λLg X h6 V E l6=>?_);rw[VL]at E ⊢;conv=>whnf
   refine av ?_;conv=>whnf
   exact cL (i+1,h6,Lg,X,V,A++[f]) ⟨O,E,D.symm,w rfl⟩ (by simp only;omega) rfl
 have d:i=u.methods.length:=by omega
 subst d;have e:nj u:=λm B=>by
  obtain⟨j,b,rfl⟩:=List.mem_iff_getElem.1 B;exact t j b b
 rw[eg e];refine⟨a.le,_,rfl,λ_=>?_⟩;rw[List.take_length]at c;have:=a.oA nr (by rw[c];simp;omega);unfold sy;rw[<-c];exact this
theorem uB (u:aI) (M:cr) (p:Option Addr) (c:Nat) (v:Vl) (h:Heap) (q:Row 2 uG h (.slice p M.objs.length c) M.objs) (d:bS u) (b:kn u M) (t:jz M.objs.length v):Pure prog 76 [.slice p M.objs.length c,.agg #[.bool v.ref,.int .i64 v.n]] h (.int .i64 (sO M.objs v)):=by
 have B:=b.len;have A:=d.1.2.1;refine gF ax func76 WW U rfl ?_;conv=>whnf
 cases a:v.ref
 ·conv=>whnf
  exact⟨by unfold sO;rw[if_pos a],rfl⟩
 have o:=t.1 a;conv=>whnf
 apply aC<;>intro g;all_goals conv=>whnf
 ·exact⟨by unfold sO;rw[if_neg (by simp[a]),if_pos g],rfl⟩
 have f:(v.n-1).toNat < M.objs.length:=by omega
 have m:aM M.objs v.n=M.objs[(v.n-1).toNat]:=by unfold aM;rw[S_,w_ f];rfl
 obtain⟨z,C,E,s,x,w⟩:=q.get f;obtain⟨D,rfl,_⟩:=w;have y:=aJ x (i:=0) rfl;have e:=sP d b (k:=v.n) O o.2;have j:sO M.objs v=typeOf (aM M.objs v.n).cls:=by unfold sO;rw[if_neg (by simp[a]),if_neg g]
 rw[m]at e j;refine av ?_;conv=>whnf
 refine ay ?_;conv=>whnf
 refine aL s ?_;conv=>whnf
 refine ld y ?_;conv=>whnf
 refine au (Cr _ h ⟨e.1,O⟩) ?_;conv=>whnf
 exact⟨by rw[j],rfl⟩
theorem Gf {u:aI} {M:cr} (b:bS u) (a:kn u M) {v:Vl} (e:jz M.objs.length v):eA u.ak.length (sO M.objs v):=by
 unfold sO;split
 ·unfold eA;omega
 rename_i d;split
 ·unfold eA;omega
 rename_i g;have c:=e.1 (by simpa using d);have f:=sP b a (k:=v.n) O c.2;unfold typeOf eA;split
 ·omega
 split<;>omega
theorem lC (E:List Value) (u:aI) (M:cr) (p:Option Addr) (c:Nat) (F vs v w:Value) (l:List Vl) (a:List Int) (h:Heap) (S:dn h E u) (N:Row 2 uG h (.slice p M.objs.length c) M.objs) (e:bS u) (t:kn u M) (A:Row 2 FR h v l) (L:∀ x∈l,jz M.objs.length x) (B:bP h w a) (R:sS u.ak.length a) :
  Pure prog 154 [.agg ⟨E⟩,.agg ⟨aR (.slice p M.objs.length c) F vs M⟩,v,w] h (tf (l.length=a.length/\jP u.ak M.objs l a)):=by
 obtain⟨D,s,Y,I,rfl,J,lR,jq,hl2⟩:=S.form;obtain⟨W,G,rfl,hc,hn⟩:=A.len;obtain⟨X,H,rfl,hd,hm⟩:=B.len;unfold aR;refine gF ax func154 Qq U rfl ?_;conv=>whnf
 apply aX<;>intro g;all_goals conv=>whnf
 ·exact⟨(cD λq=>by have:=q.1;omega).symm,rfl⟩
 refine eF [3,4,5,16,17,18] [4,5] (λi:Nat=>i<=l.length/\∀ j (b:j < l.length) (d:j < a.length),j < i->dQ u.ak (sO M.objs l[j]) a[j]=true) (λi=>l.length-i)
  (λi=>([.v (.slice X a.length H),.l 4 0,.l 5 0,.v (.slice W l.length G),.v (.int .i64 l.length),.v (.int .i64 i)],[some [.slice D u.ak.length s,.slice Y u.methods.length I],some [.slice p M.objs.length c,F,vs,.int .i64 M.steps,.int .i64 M.fin,.bool M.out.ref,.int .i64 M.out.n]],h)) 0 ⟨Nat.zero_le _,λ_ _ _ h=>absurd h O⟩ rfl ?_
 rintro i ⟨hi,y⟩;conv=>whnf
 apply aC<;>intro g;all_goals conv=>whnf
 ·have f:i < l.length:=by omega
  have m:i < a.length:=by omega
  obtain⟨ab,off,xs,P,r1,V⟩:=A.get f;obtain⟨b',z6,Q,rb⟩:=B.at m;have z:=L _ (x_ f);have T:=uB u M p c l[i] h N e t z;have C:=iz D u.ak.length s u.ak (sO M.objs l[i]) a[i] h J e.1 (Gf e t z) (R _ (x_ m));obtain rfl:=V;obtain⟨tv,o⟩:∃ aa,aa=dQ u.ak (sO M.objs l[i]) a[i]:=⟨_,rfl⟩
  rw[<-o]at C;refine ay ?_;conv=>whnf
  refine aL P ?_;conv=>whnf
  refine dZ r1 ?_;conv=>whnf
  refine ay ?_;conv=>whnf
  refine aL Q ?_;conv=>whnf
  refine ld rb ?_;conv=>whnf
  refine aP T ?_;conv=>whnf
  refine aP C ?_;cases tv with
  | true =>
   conv=>whnf
   refine av ?_;conv=>whnf
   exact cL (i+1) ⟨O,λj b d h3=>by
    by_cases K:j=i
    ·subst K;exact o.symm
    exact y j b d O⟩ O rfl
  | false =>
   conv=>whnf
   exact⟨(cD λq=>by have:=q.2.2 i f m;rw[<-o]at this;cases this).symm,rfl⟩
 exact⟨(eg ⟨O,O,λj b d=>y j b d O⟩).symm,rfl⟩
theorem Dn (N:List Value) (u:aI) (M:cr) (p:Option Addr) (c:Nat) (P vs w:Value) (o:Ob) (h:Heap) (hu:dn h N u) (ho:Row 2 uG h (.slice p M.objs.length c) M.objs) (g:bS u) (V:kn u M) (s:Row 2 FR h w o.bp) (VS:o∈M.objs) :
  bq prog 70 [.agg ⟨N⟩,.agg ⟨aR (.slice p M.objs.length c) P vs M⟩,.agg #[.int .i64 o.cls,w]] h λv h'=>h.le h'/\v=tf (jP u.ak M.objs o.bp (eG u o)):=by
 have Lv:=V.objs o VS;have hval:=λa (q:h.le a) ts E A e=>lC N u M p c P vs w E o.bp ts a (hu.le q) (ho.le q (λ_ _ ⟨v,J,i⟩=>⟨v,J,i.le q (λ_ _ i=>i)⟩)) g V (s.le q (λ_ _ i=>i)) Lv.1 A e;obtain⟨p1,Q,ab,aa,rfl,hcs,lR,jq,hl2⟩:=hu.form;obtain⟨pv,cv,rfl,hc,hn⟩:=s.len;have Al:∀ b:Int,0<=bW b/\bW b<=8:=λb=>by unfold bW;split<;>omega
 have Ou:=λ(a:Heap) (t:Int) (F:Nat) (hb:a F=some (.cells #[.int .i64 t] 3 (0,0))) (hn:o.bp.length<=6)=>Ea t o.bp.length (.slice (some ⟨F,0,none⟩) 1 1) a ⟨Z,λx i=>by obtain⟨w,_,rfl⟩:=List.mem_map.1 i;rfl,some ⟨F,0,none⟩,1,rfl,Z,.inr ⟨F,0,rfl,by simp[dP,rd,hb,bD]⟩⟩ ⟨O,O⟩;have Z8:∀ b:Int,eA u.ak.length (bW b):=λb=>by have:=g.1.1;unfold bW eA;split<;>omega
 unfold aR at *;rcases Lv.2 with ⟨m,S⟩|⟨W,G,Y⟩
 ·have R:∀(b:Int) (a:Heap) (E:Value) (B:List Nat),h.le a->dM a E (List.replicate ((o.bp.length:Nat):Int).toNat (bW b)) B->eG u o=List.replicate o.bp.length (bW b)->Pure prog 154 [.agg ⟨[.slice p1 u.ak.length Q,.slice ab u.methods.length aa]⟩,.agg ⟨[.slice p M.objs.length c,P,vs,.int .i64 M.steps,.int .i64 M.fin,.bool M.out.ref,.int .i64 M.out.n]⟩,.slice pv o.bp.length cv,E] a (tf (jP u.ak M.objs o.bp (eG u o))):=λb a E B q own he=>by
   obtain⟨p',c',rfl,_⟩:=own.form;obtain⟨_,A⟩:=cM own (by simp;omega) (λt e=>by rw[List.eq_of_mem_replicate e];have:=Al b;unfold cy;omega);have s:=hval a q _ _ A (λt e=>by rw[List.eq_of_mem_replicate e];exact Z8 b);rw[Int.toNat_natCast]at s;rw[he];have J:tf (o.bp.length=(List.replicate o.bp.length (bW b)).length/\jP u.ak M.objs o.bp (List.replicate o.bp.length (bW b)))=tf (jP u.ak M.objs o.bp (List.replicate o.bp.length (bW b))):=congrArg tf (propext ⟨λx=>x.2,λx=>⟨Z,x⟩⟩);rw[J]at s;simpa using s
  rcases m with m|m
  ·have C:eG u o=List.replicate o.bp.length (bW 0):=by unfold eG bW;rw[if_neg O,if_neg O];rfl
   rw[m];refine bE ax func70 OG JI rfl ?_;conv=>whnf
   refine aP (mm 0 h) ?_;conv=>whnf
   refine cZ [.int .i64 (bW 0)] rfl (λI L vr e1 D K=>?_);conv=>whnf
   refine cP (Ou L _ I K S) (λH y a=>?_);obtain⟨d,B,own,_⟩:=a;refine⟨d,?_⟩;have f:=R 0 y H B (y_ D d) own C;conv=>whnf
   refine au f ?_;conv=>whnf
   exact⟨y_ D d,rfl⟩
  have C:eG u o=List.replicate o.bp.length (bW 1):=by unfold eG bW;rw[if_neg O,if_pos m];rfl
  rw[m];refine bE ax func70 OG JI rfl ?_;conv=>whnf
  refine aP (mm 1 h) ?_;conv=>whnf
  refine cZ [.int .i64 (bW 1)] rfl (λI L vr e1 D K=>?_);conv=>whnf
  refine cP (Ou L _ I K S) (λH y a=>?_);obtain⟨d,B,own,_⟩:=a;refine⟨d,?_⟩;have f:=R 1 y H B (y_ D d) own C;conv=>whnf
  refine au f ?_;conv=>whnf
  exact⟨y_ D d,rfl⟩
 have IB:=eL g.1 G;have C:eG u o=bV u.ak o.cls:=by unfold eG;rw[if_pos W]
 rw[C];have X:=gh (o.cls.toNat+1) p1 u.ak.length Q u.ak o.cls h hcs g.1 W G O;have xK:sS u.ak.length (bV u.ak o.cls):=λt e=>bL.ty (eM g.1 (o.cls.toNat+1) O G t e);have h5:=g.1.2.1;have T:∀ t∈bV u.ak o.cls,cy t:=λt e=>by
  have:=dS (eM g.1 (o.cls.toNat+1) O G t e);unfold cy;omega
 generalize bV u.ak o.cls=j at X xK T Y IB ⊢;refine bE ax func70 OG JI rfl ?_;conv=>whnf
 have z:decide (o.cls = -1)=false:=decide_eq_false O;generalize decide (o.cls = -1)=d1 at z ⊢;subst z;conv=>whnf
 have z:decide (o.cls = -2)=false:=decide_eq_false O;generalize decide (o.cls = -2)=d2 at z ⊢;subst z;conv=>whnf
 refine aB X (λH y a=>?_);obtain⟨d,B,own,_⟩:=a;obtain⟨p',c',rfl,_⟩:=own.form;obtain⟨_,A⟩:=cM own O T;have f:=hval y d _ _ A xK;rw[show tf (o.bp.length=j.length/\jP u.ak M.objs o.bp j)=tf (jP u.ak M.objs o.bp j)from congrArg tf (propext ⟨λx=>x.2,λx=>⟨Y,x⟩⟩)]at f;have hm:(j.map bD).length=j.length:=by simp
 rw[hm];generalize j.length=n at f ⊢;conv=>whnf
 refine au f ?_;conv=>whnf
 exact⟨d,rfl⟩
theorem qz {u:aI} {m:bT} (f:bS u) (a:gJ u m):∀(k i:Nat) (s:cz) (comes:Bool) (out:List cz),i+k=m.code.length->Full u.ak.length m.locals s->(∀ r∈out,Full u.ak.length m.locals r)->∀ r∈(cB u m k i s comes out).1,Full u.ak.length m.locals r
 | 0,_,_,_,_,_,_,ho=>ho
 | k+1,i,s,comes,out,hi,hs,ho=>by
  have j:=a.Pj;have g:i < m.code.length:=by omega
  have d:Full u.ak.length m.locals (if (cF m i).told=true then cF m i else s):=by
   split
   ·rename_i q;have o:i < m.aF.length:=by rw[j.num];exact g
    have e:cF m i=m.aF[i]:=by unfold cF;rw[Int.toNat_natCast];exact cI o
    rw[e]at q ⊢;exact⟨a.2.1.2.2.2.2 _ (x_ o),q⟩
   exact hs
  have t:dw u m (bM m i):=by
   have e:bM m i=m.code[i]:=by unfold bM;rw[Int.toNat_natCast];exact cI g
   rw[e];exact j.mi.code _ (x_ g)
  have c:∀ r∈out++[if (cF m i).told=true then cF m i else s],Full u.ak.length m.locals r:=λr b=>by
   rcases u_.1 b with b|b
   ·exact ho r b
   rw[V_.1 b];exact d
  rw[cB];generalize (if (cF m i).told=true then cF m i else s)=w at d c;split
  ·exact ho
  split
  ·exact ho
  split
  ·exact c
  rename_i v p;split
  ·have h:=d.tell;rw[<-nQ f a t h.1 h.2.2.1 h.2.2.2.2.2]at p;have:=qz f a k (i+1) v (!eo (bM m i)) (out++[w]) O (lB f a.1 t d p) c;simpa using this
  exact c
theorem qA {u:aI} (a:bS u) {m:bT} (b:gJ u m):∀ r∈(bK u m).1,Full u.ak.length m.locals r :=
 qz a b _ 0 _ _ _ O (uA b.1 a.1.2.1) Z
theorem vT {u:aI} {m:bT} {x:dc} {s nx:cz} (v:dw u m x) (c:iT u m x s=some nx) (g:0<=cH u x):(br (bz u (cH u x))).length<=s.stack.length:=by
 obtain⟨k,a,b⟩:=x;unfold iT at c;cases d:fY u m ⟨k,a,b⟩with
 | none=>rw[d]at c;cases c
 | some j =>
  rw[d]at c;simp only at c;by_cases f:s.stack.length < j.length
  ·rw[if_pos f]at c;cases c
  rw[jh];by_cases h:k=20
  ·subst h;have:=(aS (p:=7) (q:=0) rfl).1 v;simp only[bh]at this;have w:(bz u a).cls = -1:=by simpa using this.1.2
   have o:j=(bz u a).args:=by cases d;rfl
   have e:cH u ⟨20,a,b⟩=a:=rfl;rw[e,if_neg O];rw[o]at f;omega
  by_cases i:k=21
  ·subst i;have e:cH u ⟨21,a,b⟩=find u a b:=rfl;rw[e]at g ⊢;have t:fY u m ⟨21,a,b⟩=if find u a b < 0 then none else some ((8+a)::(bz u (find u a b)).args):=rfl
   rw[t,if_neg O]at d;cases d
   simp only[List.length_cons]at f;split<;>omega
  unfold cH at g;simp only[h,i,if_false]at g;omega
def uC (u:aI) (M:cr) (i:Nat) (f:cJ):List Int:=if i+1 < M.aq.length then (fm u f).stack.take ((fm u f).stack.length-(br (bz u (cH u (jQ u f)))).length)else (fm u f).stack
def Lh (u:aI) (M:cr) (i:Nat) (f:cJ):Prop:=f.pc < (bz u f.aG).code.length/\(i+1 < M.aq.length->0<=cH u (jQ u f)/\dQ u.ak (bz u (M.aq.getD (i+1) f).aG).out (bz u (cH u (jQ u f))).out=true) /\
 (f.locals.length=(fm u f).locals.length/\jP u.ak M.objs f.locals (fm u f).locals)/\f.stack.length=(uC u M i f).length/\jP u.ak M.objs f.stack (uC u M i f)
theorem zv (us:List Value) (u:aI) (M:cr) (D C:Option Addr) (y s:Nat) (vs w:Value) (i:Nat) (h:Heap) (hu:dn h us u) (e:bS u) (o:kn u M) (K:Row 2 uG h (.slice D M.objs.length y) M.objs) (hf:Row 4 qu h (.slice C M.aq.length s) M.aq) (hi:i < M.aq.length) (hP:nj u) (hw:Row 1 Dm h w (sy u)) :
  bq prog 72 [.agg ⟨us⟩,.agg ⟨aR (.slice D M.objs.length y) (.slice C M.aq.length s) vs M⟩,.int .i64 i,w] h λv h'=>h.le h'/\v=tf (Lh u M i M.aq[i]):=by
 have F:=hu;obtain⟨pw,cw,rfl,_⟩:=hw.len;have Tt:(sy u).length=u.methods.length:=by unfold sy;simp
 obtain⟨p1,cc,ae,ad,rfl,hcs,T,jq,hl2⟩:=hu.form;obtain⟨bf,off,xs,Z9,r1,m1⟩:=hf.get hi;have d:=o.jX _ (x_ hi);generalize M.aq[i]=f at m1 d ⊢;obtain⟨v1,v2,rfl,X,Y⟩:=m1;obtain⟨pl,cl,rfl,_⟩:=X.len;obtain⟨pk,ck,rfl,_⟩:=Y.len;obtain⟨bm,om,vm,Uq,r2,m2⟩:=T.get (i:=f.aG.toNat) (by have:=d.1;omega);rw[j7 d.1]at m2;have m20:=m2;obtain⟨x1,y1,x2,y2,x3,y3,x4,y4,rfl,_,_,_,_,_,kco,_⟩:=m2.form;have rc:=aJ r2 (i:=5) rfl;unfold aR;refine bE ax func72 WS U rfl ?_;conv=>whnf
 refine ay ?_;conv=>whnf
 refine aL Z9 ?_;conv=>whnf
 refine dZ r1 ?_;conv=>whnf
 refine ob (by have:=d.1;omega) ?_;conv=>whnf
 refine aL Uq ?_;conv=>whnf
 refine ld rc ?_;conv=>whnf
 apply aC<;>intro g1;all_goals conv=>whnf
 ·exact⟨z_ h,(cD λa=>by have:=a.1;omega).symm⟩
 have OM:0<=f.pc:=d.2.1.1;have S:=e.bz d.1;have qI:f.aG.toNat < (sy u).length:=by unfold sy;rw[List.length_map];have:=d.1;omega
 obtain⟨bw,ow,xw,Ua,r3,m3⟩:=hw.get qI;have hae:(sy u)[f.aG.toNat]=(bK u (bz u f.aG)).1:=by
  rw[<-j7 d.1];exact List.getElem_map (λab=>(bK u ab).1)
 rw[hae]at m3;have Fc:bz u f.aG∈u.methods:=by rw[<-j7 d.1];exact x_ _
 obtain⟨t0,nx0,HB,_,Ai,_⟩:=ux (hP _ Fc) (i:=f.pc.toNat) O;obtain⟨vw,rfl,Dc⟩:=m3;obtain⟨Q,he0⟩:=List.getElem?_eq_some_iff.1 HB;have Ge:=Dc;obtain⟨px,cx,rfl,_⟩:=Ge.len;obtain⟨bs,os,lp,lc,kp,kc,Dv,w1,_,z⟩:=xl Dc Q;have r30:=aJ r3 (i:=0) rfl;refine ob (by have:=d.1;omega) ?_;conv=>whnf
 have V1:fm u f=(bK u (bz u f.aG)).1[f.pc.toNat]:=by unfold fm;exact cI Q
 have zu:=(qA e S) _ (x_ Q);rw[<-V1]at w1 z zu;have q:=zu.tell;have hp:f.pc < (bz u f.aG).code.length:=by omega
 have uO:((bK u (bz u f.aG)).1.length:Int) > f.pc:=by omega
 refine aL Ua ?_;conv=>whnf
 refine ld r30 ?_;conv=>whnf
 refine ay ?_;conv=>whnf
 refine aL Dv ?_;conv=>whnf
 refine dZ w1 ?_;conv=>whnf
 refine tA O (by have:=o.nf;omega) ?_;conv=>whnf
 apply aC<;>intro g2;all_goals conv=>whnf
 ·obtain⟨bi,oi,xi,AK,r5,f2,_⟩:=kco.get (i:=f.pc.toNat) O;subst f2;have V2:jQ u f=(bz u f.aG).code[f.pc.toNat]'O:=by unfold jQ;exact cI O
  rw[<-V2]at r5;have R:dw u (bz u f.aG) (jQ u f):=by rw[V2];exact S.2.1.2.2.2.1 _ (x_ _)
  have Ov:=iF R;have cb:=oI _ u (jQ u f) h F e.1 (λg=>by have:=Ov.2 g;omega);obtain⟨t,A⟩:∃ t,t=cH u (jQ u f):=⟨_,rfl⟩
  rw[<-A]at cb;obtain⟨bg,og,xg,hqg,r6,m6⟩:=hf.get (i:=i+1) O;have E:=o.jX _ (x_ (show i+1 < M.aq.length by omega));have P:M.aq.getD (i+1) f=M.aq[i+1]:=cI O;generalize M.aq[i+1]=L at m6 E P;obtain⟨xj,w2',rfl,_,_⟩:=m6;have r60:=aJ r6 (i:=0) rfl;obtain⟨ba,oa,xa,hqa,r7,m7⟩:=T.get (i:=L.aG.toNat) (by have:=E.1;omega);rw[j7 E.1]at m7;refine ay ?_;conv=>whnf
  refine aL AK ?_;conv=>whnf
  refine dZ r5 ?_;conv=>whnf
  refine aP cb ?_;conv=>whnf
  apply aC<;>intro g3;all_goals conv=>whnf
  ·exact⟨z_ h,(cD λa=>by have:=(a.2.1 O).1;omega).symm⟩
  have htl:t < u.methods.length:=by
   rw[A];unfold cH;split
   ·rename_i k;exact(Ov.1 k).2
   split
   ·exact(eD u _ _).2
   omega
  have V3:0<=t/\t < u.methods.length:=⟨O,htl⟩
  obtain⟨be,oe,xe,V4,r8,m8⟩:=T.get (i:=t.toNat) O;rw[j7 V3]at m8;have V:=e.bz V3;have hmg:=e.bz E.1;have hgv:=λc (b:h.le c)=>wA _ (bz u t) c (m8.le b) (by have:=V.1.1;have:=e.1.2.1;omega) (by have:=V.1.2.1;omega);obtain⟨_,_,_,_,_,_,_,_,rfl,_⟩:=m7.form;obtain⟨_,_,_,_,_,_,_,_,rfl,_⟩:=m8.form;have r83:=aJ r8 (i:=3) rfl;have ct:=iz p1 u.ak.length cc u.ak (bz u L.aG).out (bz u t).out h hcs e.1 (bL.ty hmg.1.2.2.1) (bL.ty V.1.2.2.1);obtain⟨tv,W⟩:∃ aa,aa=dQ u.ak (bz u L.aG).out (bz u t).out:=⟨_,rfl⟩
  rw[<-W]at ct;refine tA O (by have:=o.nf;omega) ?_;conv=>whnf
  refine ay ?_;conv=>whnf
  refine aL hqg ?_;conv=>whnf
  refine ld r60 ?_;conv=>whnf
  refine ob (by have:=E.1;omega) ?_;conv=>whnf
  refine aL hqa ?_;conv=>whnf
  refine dZ r7 ?_;conv=>whnf
  refine ay ?_;conv=>whnf
  refine aL V4 ?_;conv=>whnf
  refine ld r83 ?_;conv=>whnf
  refine aP ct ?_;cases tv with
  | false =>
   conv=>whnf
   exact⟨z_ h,(cD λa=>by have:=(a.2.1 O).2;rw[P,<-A,<-W]at this;cases this).symm⟩
  | true =>
   conv=>whnf
   have Ae:(br (bz u t)).length<=(fm u f).stack.length:=by
    have e1:t0=fm u f:=by rw[V1,<-he0]
    have e2:bM (bz u f.aG) (f.pc.toNat:Int)=jQ u f:=by unfold bM jQ;rw[Int.toNat_natCast]
    rw[e1,e2,<-nQ e S R q.1 q.2.2.1 q.2.2.2.2.2]at Ai;rw[A];exact vT R Ai O
   refine ay ?_;conv=>whnf
   refine aL V4 ?_;conv=>whnf
   refine dZ r8 ?_;conv=>whnf
   refine aB (hgv h (z_ h)) (λv9 N c=>?_);obtain⟨G,B9,Ur,_⟩:=c;obtain⟨p9,c9,rfl,_⟩:=Ur.form;have Ub:(fm u f).stack.length<=kc:=by
    obtain⟨_,p',c',g,hc,_⟩:=z.2;cases g
    exact hc
   have hlg:((br (bz u t)).map bD).length=(br (bz u t)).length:=by simp
   obtain⟨p,hk9⟩:∃ k,k=(fm u f).stack.length-(br (bz u t)).length:=⟨_,rfl⟩
   have B:uC u M i f=(fm u f).stack.take p:=by unfold uC;rw[if_pos O,<-A,hk9]
   have LD:((fm u f).stack.take p).length=p:=by simp;omega
   have I:bP h (.slice kp ((fm u f).stack.take p).length kc) ((fm u f).stack.take p):=by rw[LD];exact z.2.first O
   have J:sS u.ak.length ((fm u f).stack.take p):=λx a=>q.2.2.2.2.1 x (List.mem_of_mem_take a);have hz:((fm u f).stack.length:Int)-((br (bz u t)).map bD).length=(((fm u f).stack.take p).length:Int):=by omega
   have Us:i+1 < M.aq.length->0<=cH u (jQ u f)/\dQ u.ak (bz u (M.aq.getD (i+1) f).aG).out (bz u (cH u (jQ u f))).out=true:=λ_=>⟨O,by rw[P,<-A,<-W]⟩
   conv=>whnf
   rw[hz];generalize (fm u f).stack.take p=ls at I J B LD hz ⊢;refine av ?_;conv=>whnf
   refine ay ?_;conv=>whnf
   have j:=λc (b:h.le c)=>lC _ u M D y (.slice C M.aq.length s) vs _ _ f.locals (fm u f).locals c (F.le b) (K.le b (λ_ _ ⟨v,g,a⟩=>⟨v,g,a.le b (λ_ _ a=>a)⟩)) e o (X.le b (λ_ _ a=>a)) d.2.2.2.2.1 (z.1.le b) q.2.2.2.1;have H:=λc (b:h.le c)=>lC _ u M D y (.slice C M.aq.length s) vs _ _ f.stack ls c (F.le b) (K.le b (λ_ _ ⟨v,g,a⟩=>⟨v,g,a.le b (λ_ _ a=>a)⟩)) e o (Y.le b (λ_ _ a=>a)) d.2.2.2.2.2 (I.le b) J;unfold aR at j H;by_cases m:f.locals.length=(fm u f).locals.length/\jP u.ak M.objs f.locals (fm u f).locals
   ·rw[eg m]at j;refine au (j N G) ?_;conv=>whnf
    refine au (H N G) ?_;conv=>whnf
    exact⟨G,congrArg tf (propext ⟨λx=>⟨hp,Us,m,by rw[B];exact x⟩,λx=>by have:=x.2.2.2;rw[B]at this;exact this⟩)⟩
   rw[cD m]at j;refine au (j N G) ?_;conv=>whnf
   exact⟨G,(cD λx=>m x.2.2.1).symm⟩
 have B:uC u M i f=(fm u f).stack:=by unfold uC;rw[if_neg O]
 have I:=z.2;have J:=q.2.2.2.2.1;have j:=λc (b:h.le c)=>lC _ u M D y (.slice C M.aq.length s) vs _ _ f.locals (fm u f).locals c (F.le b) (K.le b (λ_ _ ⟨v,g,a⟩=>⟨v,g,a.le b (λ_ _ a=>a)⟩)) e o (X.le b (λ_ _ a=>a)) d.2.2.2.2.1 (z.1.le b) q.2.2.2.1;have H:=λc (b:h.le c)=>lC _ u M D y (.slice C M.aq.length s) vs _ _ f.stack (fm u f).stack c (F.le b) (K.le b (λ_ _ ⟨v,g,a⟩=>⟨v,g,a.le b (λ_ _ a=>a)⟩)) e o (Y.le b (λ_ _ a=>a)) d.2.2.2.2.2 (I.le b) J;unfold aR at j H;by_cases m:f.locals.length=(fm u f).locals.length/\jP u.ak M.objs f.locals (fm u f).locals
 ·rw[eg m]at j;refine au (j h (z_ h)) ?_;conv=>whnf
  refine au (H h (z_ h)) ?_;conv=>whnf
  exact⟨(z_ h),congrArg tf (propext ⟨λx=>⟨hp,(λa=>absurd a O),m,by rw[B];exact x⟩,λx=>by have:=x.2.2.2;rw[B]at this;exact this⟩)⟩
 rw[cD m]at j;refine au (j h (z_ h)) ?_;conv=>whnf
 exact⟨(z_ h),(cD λx=>m x.2.2.1).symm⟩
theorem Dp {u:aI} (o:bS u) {m:bT} {x:dc} (j:dw u m x):(0<=bG u x↔0<=cH u x)/\(0<=cH u x->bG u x=((br (bz u (cH u x))).length:Int)/\K8 u x=cH u x):=by
 obtain⟨k,a,b⟩:=x;by_cases g:k=20
 ·subst g;have:=(aS (p:=7) (q:=0) rfl).1 j;simp only[bh]at this;have v:(bz u a).cls = -1:=by simpa using this.1.2
  have t:0<=a:=this.1.1.1;have c:bG u ⟨20,a,b⟩=(bz u a).args.length:=rfl;have d:cH u ⟨20,a,b⟩=a:=rfl;have f:K8 u ⟨20,a,b⟩=a:=rfl;rw[c,d,f,jh,if_neg O];exact⟨O,λ_=>⟨O,rfl⟩⟩
 by_cases h:k=21
 ·subst h;have s:=(iF j).2 rfl;have c:bG u ⟨21,a,b⟩=if 0<=find u a b then ((bz u (find u a b)).args.length:Int)+1 else -1:=rfl
  have d:cH u ⟨21,a,b⟩=find u a b:=rfl;have f:K8 u ⟨21,a,b⟩=find u a b:=rfl;rw[c,d,f,jh];by_cases e:0<=find u a b
  ·rw[if_pos e,if_pos (mP o.1 s.2 e)];exact⟨O,λ_=>⟨O,rfl⟩⟩
  rw[if_neg e];exact⟨O,λi=>absurd i e⟩
 have c:bG u ⟨k,a,b⟩ = -1:=by unfold bG;simp only[g,h,if_false]
 have d:cH u ⟨k,a,b⟩ = -1:=by unfold cH;simp only[g,h,if_false]
 rw[c,d];exact⟨O,λi=>absurd i O⟩
theorem Li {u:aI} (b:bS u) {f:cJ} {n:Nat} (w:tM u n f) (h:f.pc < (bz u f.aG).code.length):dw u (bz u f.aG) (jQ u f):=by
 have c:=w.2.1.1;have a:f.pc.toNat < (bz u f.aG).code.length:=by omega
 have e:jQ u f=(bz u f.aG).code[f.pc.toNat]:=by unfold jQ;exact cI a
 rw[e];exact(b.bz w.1).2.1.2.2.2.1 _ (x_ a)
theorem Cb {u:aI} {M:cr} (d:bS u) (R:nj u) (Q:kn u M) {i:Nat} (T:i < M.aq.length):Lh u M i M.aq[i]↔VQ u M i M.aq[i]:=by
 have w:=Q.jX _ (x_ T);have o:∀(h:i+1 < M.aq.length),M.aq.getD (i+1) M.aq[i]=M.aq[i+1]:=λh=>cI h;generalize M.aq[i]=f at w o ⊢;have G:=d.bz w.1;have V:=nH w.1;have e:=R _ V;have h0:=w.2.1.1;have hlen:(bK u (bz u f.aG)).1.length=(bz u f.aG).code.length:=by
  have:=(uv _ 0 _ _ _ rfl e).2.1;have a2':(bK u (bz u f.aG)).1.length=0+(bz u f.aG).code.length:=this;omega
 by_cases g:f.pc < (bz u f.aG).code.length
 ·have p:f.pc.toNat < (bK u (bz u f.aG)).1.length:=by omega
  have I:fm u f=(bK u (bz u f.aG)).1[f.pc.toNat]:=by unfold fm;exact cI p
  have D:=(qA d G) _ (x_ p);rw[<-I]at D;have s:=D.tell;have t:=Li d w g;obtain⟨B,C⟩:=Dp d t;obtain⟨t0,nx0,H,_,J,_⟩:=ux e (i:=f.pc.toNat) O;have N:t0=fm u f:=by
   rw[I];rw[w_ p]at H;simpa using H.symm
  have L:bM (bz u f.aG) (f.pc.toNat:Int)=jQ u f:=by unfold bM jQ;rw[Int.toNat_natCast]
  rw[N,L,<-nQ d G t s.1 s.2.2.1 s.2.2.2.2.2]at J;have E:=λh=>vT t J h;have F:f.locals.length=(fm u f).locals.length:=by have:=w.2.2.1;omega
  by_cases a:i+1 < M.aq.length
  ·have b:uC u M i f=(fm u f).stack.take ((fm u f).stack.length-(br (bz u (cH u (jQ u f)))).length):=by unfold uC;rw[if_pos a]
   have ell:(uC u M i f).length=(fm u f).stack.length-(br (bz u (cH u (jQ u f)))).length:=by rw[b,List.length_take];omega
   constructor
   ·rintro⟨x,K,y,z,j⟩;obtain⟨c,X⟩:=K a;obtain⟨Y,A⟩:=C c;have S:=E c;refine⟨e,O,y.2,⟨O,λv m P=>?_⟩,λh=>O,λ_=>⟨B.2 c,O⟩,λh=>?_⟩
    ·have:=j.2 v m O;simp only[b,List.getElem_take]at this;exact this
    rw[A,<-o h];exact X
   intro q;obtain⟨W,n2⟩:=q.low a;have c:=B.1 W;obtain⟨Y,A⟩:=C c;have S:=E c;refine⟨g,λ_=>⟨c,?_⟩,⟨F,q.loc⟩,O,⟨O,λv m P=>?_⟩⟩
   ·have:=q.ZU a;rw[A]at this;rw[o a];exact this
   have:=q.cA.2 v m O;simp only[b,List.getElem_take];exact this
  have b:uC u M i f=(fm u f).stack:=by unfold uC;rw[if_neg a]
  constructor
  ·rintro⟨x,K,y,z,j⟩;rw[b]at z j;exact⟨e,O,y.2,j,λ_=>z,λh=>absurd h a,λh=>absurd h a⟩
  intro q;exact⟨g,λh=>absurd h a,⟨F,q.loc⟩,by rw[b];exact q.top O,by rw[b];exact q.cA⟩
 constructor
 ·rintro⟨x,_⟩;exact absurd x g
 intro q;have:=q.pc;omega
def Dq (u:aI) (M:cr):Prop:=(kn u M/\M.fin≠3)/\(∀ o∈M.objs,jP u.ak M.objs o.bp (eG u o))/\(∀ i (a:i < M.aq.length),Lh u M i M.aq[i])/\(M.fin≠1\/M.out.ref=false)/\(M.fin≠2\/dQ u.ak (sO M.objs M.out) 9=true)
theorem Gg {u:aI} {M:cr} (d:bS u) (b:kn u M):sO M.objs M.out=1↔M.out.ref=false :=
 ⟨λh=>by
  have a:=b.out;cases c:M.out.ref
  ·rfl
  have a:=a.1 c;unfold sO at h;rw[if_neg (by simp[c])]at h;split at h
  ·omega
  have e:=sP d b (k:=M.out.n) O a.2;unfold typeOf at h;split at h
  ·omega
  split at h<;>omega,λh=>by unfold sO;rw[if_pos h]⟩
theorem Cc {u:aI} {M:cr}:Oj u M↔(bS u/\nj u/\Dq u M):=by
 constructor
 ·rintro⟨⟨b,a,c,e,i,g⟩,f,j⟩;refine⟨b,c,⟨a,e⟩,i,λm d=>(Cb b c a d).2 (g m d),?_,?_⟩
  ·by_cases h:M.fin=1
   ·exact .inr ((Gg b a).1 (f h))
   exact .inl h
  by_cases h:M.fin=2
  ·exact .inr (j h)
  exact .inl h
 rintro⟨b,c,⟨a,e⟩,i,g,f,j⟩;exact⟨⟨b,a,c,e,i,λm d=>(Cb b c a d).1 (g m d)⟩,λh=>(Gg b a).2 (f.resolve_left (λx=>x h)),λh=>j.resolve_left (λx=>x h)⟩
theorem uU (a:List Value) (u:aI) (h:Heap) (c:dn h a u) (d:¬bS u):Pure prog 29 [.agg ⟨a⟩] h (.tuple #[.slice none 0 0,.bool false]):=by
 have b:=yw a u h c;rw[cD d]at b;obtain⟨p,e,q,f,rfl,_⟩:=c.form;refine jc ax func29 PE Mj rfl ?_;conv=>whnf
 refine au b ?_;conv=>whnf
 exact⟨rfl,z_ h⟩
theorem Lj {p q:Prop} {_:Decidable q} (b:p↔¬q):Value.bool (!decide q)=tf p:=by
 by_cases a:q
 ·rw[cD (λx=>b.1 x a),decide_eq_true a];rfl
 rw[eg (b.2 a),decide_eq_false a];rfl
theorem qB {P:Program} {f:FuncId} {args:List Value} {h:Heap} {K:Value->Heap->Prop} {E:List PanicEntry->Heap->Prop} {x:Prop} (k:bq P f args h λv a=>h.le a/\v=tf x) (e:∀ a,h.le a->x->K (.bool true) a) (b:∀ a,h.le a->¬x->K (.bool false) a):Go.Vc.Call P f args h K E :=
 aB k λv a d=>by
  obtain⟨l,rfl⟩:=d;by_cases c:x
  ·rw[eg c];exact e a l c
  rw[cD c];exact b a l c
structure sA (h:Heap) (bu bm bs:Nat) (p:Option Addr) (cc:Nat) (q:Option Addr) (d:Nat) (u:aI) (po:Option Addr) (co:Nat) (pf:Option Addr) (cf:Nat) (ps:Option Addr) (cs:Nat) (M:cr) (w:Value):Prop where
 H6:∃ t,h bu=some (.cells [.slice p u.ak.length cc,.slice q u.methods.length d].toArray t (0,0))
 xC:∃ t,h bm=some (.cells [.slice po M.objs.length co,.slice pf M.aq.length cf,.slice ps M.said.length cs,.int .i64 M.steps,.int .i64 M.fin,.bool M.out.ref,.int .i64 M.out.n].toArray t (0,0))
 Ut:∃ t,h bs=some (.cells [w].toArray t (0,0))
 FE:dn h [.slice p u.ak.length cc,.slice q u.methods.length d] u
 objs:Row 2 uG h (.slice po M.objs.length co) M.objs
 aq:Row 4 qu h (.slice pf M.aq.length cf) M.aq
 said:Row 1 AX h (.slice ps M.said.length cs) M.said
 Pn:Row 1 Dm h w (sy u)
 hT:bS u
 hP:nj u
section
variable {h h':Heap} {bu bm bs:Nat} {p q po pf ps:Option Addr} {cc d co cf cs:Nat} {u:aI} {M:cr} {w:Value}
theorem sA.le (b:h.le h') (a:sA h bu bm bs p cc q d u po co pf cf ps cs M w):sA h' bu bm bs p cc q d u po co pf cf ps cs M w where
 H6:=by obtain⟨t,e⟩:=a.H6;exact⟨t,b _ _ e⟩
 xC:=by obtain⟨t,e⟩:=a.xC;exact⟨t,b _ _ e⟩
 Ut:=by obtain⟨t,e⟩:=a.Ut;exact⟨t,b _ _ e⟩
 FE:=a.FE.le b
 objs:=a.objs.le b λ_ _ c=>uG.le b c
 aq:=a.aq.le b λ_ _ c=>qu.le b c
 said:=a.said.le b λ_ _ c=>c
 Pn:=a.Pn.le b λ_ _ c=>nr _ _ _ _ b c
 hT:=a.hT
 hP:=a.hP
theorem Ow (a:sA h bu bm bs p cc q d u po co pf cf ps cs M w):bq prog 66 [di bu,di bm] h λv h'=>h.le h'/\v=tf (kn u M/\M.fin≠3):=by
 obtain⟨o,f⟩:=a.H6;obtain⟨m,e⟩:=a.xC;have b:=F1 [.slice p u.ak.length cc,.slice q u.methods.length d] _ u M h a.FE a.hT ⟨_,_,_,rfl,a.objs,a.aq,a.said⟩;have j:dP h bu 0 2=some [.slice p u.ak.length cc,.slice q u.methods.length d]:=bA f 2 0 Z;have g:dP h bm 0 7=some _:=bA e 7 0 Z;unfold aR at b;refine bE ax func66 WN U rfl ?_;conv=>whnf
 refine dZ j ?_;conv=>whnf
 refine dZ g ?_;conv=>whnf
 by_cases c:kn u M
 ·rw[eg c]at b;refine au b ?_;conv=>whnf
  refine ld (aY (i:=4) e rfl) ?_;conv=>whnf
  exact⟨z_ h,Lj ⟨λx=>x.2,λx=>⟨c,x⟩⟩⟩
 rw[cD c]at b;refine au b ?_;conv=>whnf
 exact⟨z_ h,bU λx=>c x.1⟩
theorem Ll (a:sA h bu bm bs p cc q d u po co pf cf ps cs M w) (g:kn u M) (o:Ob) (xs:List Value) (t:uG h xs o) (s:o∈M.objs):bq prog 69 [.agg ⟨xs⟩,di bu,di bm] h λv h'=>h.le h'/\v=tf (jP u.ak M.objs o.bp (eG u o)):=by
 obtain⟨D,j⟩:=a.H6;obtain⟨C,i⟩:=a.xC;obtain⟨y,rfl,f⟩:=t;have k:=λe (b:h.le e)=>Dn [.slice p u.ak.length cc,.slice q u.methods.length d] u M po co (.slice pf M.aq.length cf) (.slice ps M.said.length cs) y o e (a.FE.le b) (a.objs.le b λ_ _ c=>uG.le b c) a.hT g (f.le b λ_ _ c=>c) s;obtain⟨B,z,rfl,_,_⟩:=f.len;unfold aR at k;refine bE ax func69 WQ U rfl ?_;conv=>whnf
 refine dZ (bA j 2 0 Z) ?_;conv=>whnf
 refine dZ (bA i 7 0 Z) ?_;conv=>whnf
 refine aB (k h (z_ h)) (λv A m=>?_);obtain⟨x,rfl⟩:=m;conv=>whnf
 exact⟨x,rfl⟩
theorem Ds (a:sA h bu bm bs p cc q d u po co pf cf ps cs M w) (z:kn u M):bq prog 68 [.slice po M.objs.length co,.func (.func 69) #[] #[di bu,di bm]] h λv h'=>h.le h'/\v=tf (∀ o∈M.objs,jP u.ak M.objs o.bp (eG u o)):=by
 have N:=z.len;refine bE ax func68 OF JH rfl ?_;conv=>whnf
 refine eF [1,7,8,9] [] (λs:Nat × Heap=>s.1<=M.objs.length/\h.le s.2/\∀ o∈M.objs.take s.1,jP u.ak M.objs o.bp (eG u o)) (λs=>M.objs.length-s.1)
  (λs=>([.v (.func (.func 69) #[] #[di bu,di bm]),.v (.slice po M.objs.length co),.v (.int .i64 M.objs.length),.v (.int .i64 s.1)],[],s.2)) (0,h) ⟨Nat.zero_le _,z_ h,Z⟩ rfl ?_
 rintro⟨i,L⟩ ⟨F,e,g⟩;simp only at F e g ⊢;conv=>whnf
 apply aC<;>intro E;all_goals conv=>whnf
 ·have f:i < M.objs.length:=by omega
  have x:=a.le e;obtain⟨K,P,J,A,B,t⟩:=x.objs.get f;have c:=Ll x z _ J t (x_ f);have b:=Classical.em (jP u.ak M.objs M.objs[i].bp (eG u M.objs[i]));have C:=λD=>take_one (Q:=λo=>jP u.ak M.objs o.bp (eG u o)) f g D;have mem:=x_ f;generalize G:M.objs[i]=o at t c b mem;rw[G]at C;obtain⟨R,rfl,H⟩:=t;obtain⟨_,_,rfl,_,_⟩:=H.len;rcases b with b|b
  ·rw[eg b]at c;repeat' ((first|refine aL A ?_|refine ay ?_|refine dZ B ?_)<;>conv=>whnf)
   refine aB c (λv y j=>?_);obtain⟨m,rfl⟩:=j;conv=>whnf
   refine av ?_;conv=>whnf
   exact cL (i+1,y) ⟨by simp only;omega,y_ e m,C b⟩ (by simp only;omega) rfl
  rw[cD b]at c;repeat' ((first|refine aL A ?_|refine ay ?_|refine dZ B ?_)<;>conv=>whnf)
  refine aB c (λv y j=>?_);obtain⟨m,rfl⟩:=j;conv=>whnf
  exact⟨y_ e m,bU λI=>b (I _ mem)⟩
 have:i=M.objs.length:=by omega
 subst this;rw[List.take_length]at g;exact⟨e,dH g⟩
theorem Ox (a:sA h bu bm bs p cc q d u po co pf cf ps cs M w) (b:kn u M):bq prog 67 [di bm,di bu] h λv h'=>h.le h'/\v=tf (∀ o∈M.objs,jP u.ak M.objs o.bp (eG u o)):=by
 obtain⟨j,c⟩:=a.xC;have k:=Ds a b;refine bE ax func67 WO U rfl ?_;conv=>whnf
 refine ld (aY (i:=0) c rfl) ?_;conv=>whnf
 refine aB k (λv g e=>?_);obtain⟨f,rfl⟩:=e;conv=>whnf
 exact⟨f,rfl⟩
theorem Oy (a:sA h bu bm bs p cc q d u po co pf cf ps cs M w) (z:kn u M):bq prog 71 [di bm,di bu,di bs] h λv h'=>h.le h'/\v=tf (∀ i (A:i < M.aq.length),Lh u M i M.aq[i]):=by
 obtain⟨N,D⟩:=a.xC;have J:=z.nf;refine bE ax func71 WR U rfl ?_;conv=>whnf
 refine ld (aY (i:=1) D rfl) ?_;conv=>whnf
 refine eF [0,1,2,7,8] [] (λs:Nat × Heap=>s.1<=M.aq.length/\h.le s.2/\∀ j (m:j < M.aq.length),j < s.1->Lh u M j M.aq[j]) (λs=>M.aq.length-s.1)
  (λs=>([.v (di bm),.v (di bu),.v (di bs),.v (.int .i64 M.aq.length),.v (.int .i64 s.1)],[],s.2)) (0,h) ⟨Nat.zero_le _,z_ h,λ_ _ x=>absurd x Z⟩ rfl ?_
 rintro⟨i,o⟩ ⟨A,f,m⟩;simp only at A f m ⊢;conv=>whnf
 apply aC<;>intro C;all_goals conv=>whnf
 ·have B:i < M.aq.length:=by omega
  have b:=a.le f;obtain⟨t1,G⟩:=b.H6;obtain⟨t2,E⟩:=b.xC;obtain⟨t3,F⟩:=b.Ut;have e:=zv _ u M po pf co cf (.slice ps M.said.length cs) w i o b.FE a.hT z b.objs b.aq B a.hP b.Pn;obtain⟨L,I,K,_⟩:=b.Pn.len;unfold aR at e;refine dZ (bA G 2 0 Z) ?_;conv=>whnf
  refine dZ (bA E 7 0 Z) ?_;conv=>whnf
  refine ld (aY (i:=0) F rfl) ?_;conv=>whnf
  by_cases g:Lh u M i M.aq[i]
  ·rw[eg g]at e;refine aB e (λv c t=>?_);obtain⟨y,rfl⟩:=t;conv=>whnf
   refine av ?_;conv=>whnf
   exact cL (i+1,c) ⟨by simp only;omega,y_ f y,λj o c=>by
    by_cases H:j=i
    ·subst H;exact g
    exact m j o (by simp only at c;omega)⟩ (by simp only;omega) rfl
  rw[cD g]at e;refine aB e (λv c t=>?_);obtain⟨y,rfl⟩:=t;conv=>whnf
  exact⟨y_ f y,bU λx=>g (x i B)⟩
 have:i=M.aq.length:=by omega
 subst this;exact⟨f,dH λj c=>m j c c⟩
theorem Oz (a:sA h bu bm bs p cc q d u po co pf cf ps cs M w):bq prog 73 [di bm] h λv h'=>h.le h'/\v=tf (M.fin≠1\/M.out.ref=false):=by
 obtain⟨j,c⟩:=a.xC;have e:rd h bm 5=some (.bool M.out.ref):=aY c rfl;refine bE ax func73 WT U rfl ?_;conv=>whnf
 refine ld (aY (i:=4) c rfl) ?_;conv=>whnf
 apply aX<;>intro g;all_goals conv=>whnf
 ·exact⟨z_ h,dH (.inl g)⟩
 refine ld e ?_;conv=>whnf
 cases f:M.out.ref
 all_goals conv=>whnf
 ·exact⟨z_ h,dH (.inr rfl)⟩
 exact⟨z_ h,bU λb=>by rcases b with b|b;exact b g;cases b⟩
theorem OA (a:sA h bu bm bs p cc q d u po co pf cf ps cs M w) (c:kn u M):bq prog 74 [di bm,di bu] h λv h'=>h.le h'/\v=tf (M.fin≠2\/dQ u.ak (sO M.objs M.out) 9=true):=by
 obtain⟨C,e⟩:=a.xC;obtain⟨D,m⟩:=a.H6;have B:=a.hT.1.1;have x:=uB u M po co M.out h a.objs a.hT c c.out;have s:Row 2 uK h (.slice p u.ak.length cc) u.ak:=by
  obtain⟨E,F,f,o,_⟩:=a.FE;simp only[List.cons.injEq,and_true]at f;rw[f.1];exact o
 have j:=iz p u.ak.length cc u.ak (sO M.objs M.out) 9 h s a.hT.1 (Gf a.hT c c.out) (by unfold eA;omega);have y:dP h bm 5 2=some [.bool M.out.ref,.int .i64 M.out.n]:=bA e 2 5 Z;obtain⟨A,t⟩:∃ z,z=dQ u.ak (sO M.objs M.out) 9:=⟨_,rfl⟩
 rw[<-t]at j ⊢;refine bE ax func74 WU U rfl ?_;conv=>whnf
 refine ld (aY (i:=4) e rfl) ?_;conv=>whnf
 apply aX<;>intro g;all_goals conv=>whnf
 ·repeat' ((first|exact⟨z_ h,dH (.inl g)⟩|apply T_|exact trivial)<;>conv=>whnf)
 refine ld (aY (i:=0) m rfl) ?_;conv=>whnf
 refine ld (aY (i:=0) e rfl) ?_;conv=>whnf
 refine dZ y ?_;conv=>whnf
 refine aP x ?_;conv=>whnf
 refine aP j ?_;cases A with
 | true =>
  conv=>whnf
  repeat' ((first|exact⟨z_ h,dH (.inr rfl)⟩|apply T_|exact trivial)<;>conv=>whnf)
 | false =>
  conv=>whnf
  repeat' ((first|exact⟨z_ h,bU λb=>by rcases b with b|b;exact b g;cases b⟩|apply T_|exact trivial)<;>conv=>whnf)
def Jg (bu bm bs:Nat):List Value:=[.func (.func 66) #[] #[di bu,di bm],.func (.func 67) #[] #[di bm,di bu],.func (.func 71) #[] #[di bm,di bu,di bs],.func (.func 73) #[] #[di bm],.func (.func 74) #[] #[di bm,di bu]]
def uV (u:aI) (M:cr):List Prop:=[kn u M/\M.fin≠3,∀ o∈M.objs,jP u.ak M.objs o.bp (eG u o),∀ i (a:i < M.aq.length),Lh u M i M.aq[i],M.fin≠1\/M.out.ref=false,M.fin≠2\/dQ u.ak (sO M.objs M.out) 9=true]
theorem zw (u:aI) (M:cr):(∀ c∈uV u M,c)↔Dq u M:=by
 simp only[uV,Dq,List.mem_cons,List.not_mem_nil,or_false,forall_eq_or_imp,forall_eq]
theorem Gh (a:sA h bu bm bs p cc q d u po co pf cf ps cs M w) {y:Nat} {t8:TypeId} (o:h y=some (.cells (Jg bu bm bs).toArray t8 (0,0))):bq prog 65 [.slice (some ⟨y,0,none⟩) 5 5] h λv h'=>h.le h'/\v=tf (Dq u M):=by
 refine bE ax func65 PF Mk rfl ?_;conv=>whnf
 refine eF [5,6,7] [] (λs:Nat × Heap=>s.1<=5/\h.le s.2/\∀ c∈(uV u M).take s.1,c) (λs=>5-s.1)
  (λs=>([.v (.slice (some ⟨y,0,none⟩) 5 5),.v (.int .i64 5),.v (.int .i64 s.1)],[],s.2)) (0,h) ⟨Nat.zero_le _,z_ h,Z⟩ rfl ?_
 rintro⟨i,C⟩ ⟨D,f,x⟩;simp only at D f x ⊢;have mk:1<=i->kn u M:=λC=>(x (kn u M/\M.fin≠3) (by
  rw[List.mem_take_iff_getElem];exact⟨0,by simp[uV];omega,rfl⟩)).1
 conv=>whnf
 apply aC<;>intro B;all_goals conv=>whnf
 ·have A:i < (uV u M).length:=by simp[uV];omega
  have m:(uV u M)[i]->∀ c∈(uV u M).take (i+1),c:=λz=>take_one (Q:=λc=>c) A x z;have t:¬(uV u M)[i]->¬Dq u M:=λz F=>z ((zw u M).2 F _ (x_ A));have E:i=0\/i=1\/i=2\/i=3\/i=4:=by omega
  have j:=a.le f;refine ay ?_;conv=>whnf
  refine ptr ?_;conv=>whnf
  rcases E with rfl|rfl|rfl|rfl|rfl
  ·refine ld (aY (i:=0) (f _ _ o) rfl) ?_;conv=>whnf
   refine qB (Ow j) (λg e b=>?_) (λg e b=>?_)
   ·conv=>whnf
    refine av ?_;conv=>whnf
    exact cL (0+1,g) ⟨by simp only;omega,y_ f e,m b⟩ (by simp only;omega) rfl
   conv=>whnf
   exact⟨y_ f e,bU (t b)⟩
  ·refine ld (aY (i:=1) (f _ _ o) rfl) ?_;conv=>whnf
   refine qB (Ox j (mk O)) (λg e b=>?_) (λg e b=>?_)
   ·conv=>whnf
    refine av ?_;conv=>whnf
    exact cL (1+1,g) ⟨by simp only;omega,y_ f e,m b⟩ (by simp only;omega) rfl
   conv=>whnf
   exact⟨y_ f e,bU (t b)⟩
  ·refine ld (aY (i:=2) (f _ _ o) rfl) ?_;conv=>whnf
   refine qB (Oy j (mk O)) (λg e b=>?_) (λg e b=>?_)
   ·conv=>whnf
    refine av ?_;conv=>whnf
    exact cL (2+1,g) ⟨by simp only;omega,y_ f e,m b⟩ (by simp only;omega) rfl
   conv=>whnf
   exact⟨y_ f e,bU (t b)⟩
  ·refine ld (aY (i:=3) (f _ _ o) rfl) ?_;conv=>whnf
   refine qB (Oz j) (λg e b=>?_) (λg e b=>?_)
   ·conv=>whnf
    refine av ?_;conv=>whnf
    exact cL (3+1,g) ⟨by simp only;omega,y_ f e,m b⟩ (by simp only;omega) rfl
   conv=>whnf
   exact⟨y_ f e,bU (t b)⟩
  refine ld (aY (i:=4) (f _ _ o) rfl) ?_;conv=>whnf
  refine qB (OA j (mk O)) (λg e b=>?_) (λg e b=>?_)
  ·conv=>whnf
   refine av ?_;conv=>whnf
   exact cL (4+1,g) ⟨by simp only;omega,y_ f e,m b⟩ (by simp only;omega) rfl
  conv=>whnf
  exact⟨y_ f e,bU (t b)⟩
 have:i=5:=by omega
 subst this;exact⟨f,dH ((zw u M).1 (by simpa [uV]using x))⟩
end
theorem A5 (F mc:List Value) (u:aI) (M:cr) (w:Value) (h:Heap) (s:dn h F u) (T:bS u) (S:nj u) (R:AY h mc M) (t:Row 1 Dm h w (sy u)):bq prog 30 [.agg ⟨F⟩,.agg ⟨mc⟩,w] h λv Q=>h.le Q/\v=tf (Dq u M):=by
 have W:=s;obtain⟨z,g,E,p,rfl,hcs,lR,jq,hl2⟩:=s.form;obtain⟨vo,vf,vs,rfl,G,H,I⟩:=R;obtain⟨B,j,rfl,ZN,PB⟩:=G.len;obtain⟨A,i,rfl,ZO,Ly⟩:=H.len;obtain⟨C,m,rfl,ZP,ZQ⟩:=I.len;obtain⟨D,o,rfl,_,_⟩:=t.len;unfold aR;refine bE ax func30 Wv U rfl ?_;conv=>whnf
 refine cZ [.slice z u.ak.length g,.slice E u.methods.length p] rfl (λf h1 ZR e1 X K=>?_);conv=>whnf
 refine cZ [.slice B M.objs.length j,.slice A M.aq.length i,.slice C M.said.length m,.int .i64 M.steps,.int .i64 M.fin,.bool M.out.ref,.int .i64 M.out.n] rfl (λd h2 LH e2 x L=>?_);conv=>whnf
 refine cZ [.slice D (sy u).length o] rfl (λe h3 Zt e3 Y N=>?_);conv=>whnf
 refine cZ (Jg f d e) rfl (λb8 q ZS e7 y P=>?_);have c:=y_ Y y;have a:h.le q:=y_ X (y_ x c);have J:sA q f d e z g E p u B j A i C m M (.slice D (sy u).length o):=⟨⟨_,c _ _ (x _ _ K)⟩,⟨_,c _ _ L⟩,⟨_,y _ _ N⟩,W.le a,G.le a (λ_ _ b=>uG.le a b),H.le a (λ_ _ b=>qu.le a b),I.le a (λ_ _ b=>b),t.le a (λ_ _ b=>nr _ _ _ _ a b),T,S⟩
 conv=>whnf
 refine aB (Gh J P) (λv h8 V=>?_);obtain⟨l8,rfl⟩:=V;conv=>whnf
 exact⟨y_ a l8,rfl⟩
theorem Lm (d mc:List Value) (u:aI) (M:cr) (h:Heap) (f:dn h d u) (j:AY h mc M) (p:GlE h):bq prog 10 [.agg ⟨d⟩,.agg ⟨mc⟩] h λv o=>h.le o/\v=tf (Oj u M):=by
 have s:=λa=>uU d u h f a;have t:=λa=>xI d u h f a p;have g:=λa b e (c:h.le e) z q=>A5 d mc u M z e (f.le c) a b (j.le c) q;obtain⟨X,D,aa,I,rfl,P,S,Q,R⟩:=f.form;obtain⟨vo,vf,vs,rfl,A,B,C⟩:=j;obtain⟨po,F,rfl,N,V⟩:=A.len;obtain⟨Y,E,rfl,L,T⟩:=B.len;obtain⟨ps,G,rfl,K,W⟩:=C.len;unfold aR at g ⊢;refine bE ax func10 Ws U rfl ?_;conv=>whnf
 by_cases a:bS u
 ·refine aB (t a) (λv e i=>?_);obtain⟨c,y,rfl,m⟩:=i;by_cases b:nj u
  ·rw[eg b];have g:=g a b e c y (m b);obtain⟨pw,H,rfl,_,_⟩:=(m b).len;conv=>whnf
   refine aB g (λv J i=>?_);obtain⟨w,rfl⟩:=i;conv=>whnf
   exact⟨y_ c w,congrArg tf (propext ⟨λx=>Cc.2 ⟨a,b,x⟩,λx=>(Cc.1 x).2.2⟩)⟩
  rw[cD b];conv=>whnf
  exact⟨c,bU λx=>b x.fit.pass⟩
 refine au (s a) ?_;conv=>whnf
 exact⟨z_ h,bU λx=>a x.fit.unit⟩
open Go.Vc Go.Proofs.Tryz
set_option maxRecDepth 100000
set_option maxHeartbeats 4000000
set_option pp.maxSteps 400
theorem V5 {P:Program} {f:FuncId} {args:List Value} {c g:Heap} {R:Value->Heap->Prop} {K:Value->Heap->Prop} {E:List PanicEntry->Heap->Prop} (j:c.le g) (o:bq P f args c R) (h0:∀ v a,R v a->c.le a) (q:∀ v d a,d.le a->g.le a->R v d->K v a):Go.Vc.Call P f args g K E :=
 aB (FP j o) λv a p=>by
  obtain⟨d,r,s,m,t⟩:=p;have u:=h0 v d r;refine q v d a (λy w b=>?_) (λy w b=>?_) r
  ·by_cases e:c y≠none\/g y=none
   ·rw[m y e];exact b
   rw[t y (Classical.byContradiction λx=>e (.inl x)) (λx=>e (.inr x))]at b;cases b
  by_cases e:c y=none
  ·rw[s y e (by rw[b];simp)];exact b
  rw[m y (.inl e)];cases h:c y with
  | none=>exact absurd h e
  | some z =>
   have i:=j y z h;rw[b]at i;rw[i];exact u y _ h
end Go.Proofs
