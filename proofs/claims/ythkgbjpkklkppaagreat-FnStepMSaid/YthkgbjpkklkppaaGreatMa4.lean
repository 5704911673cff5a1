/- Part 4 of the lemmas on which the law rests: what functions of the program and of the reference do; no conditions but those that each lemma states. -/
import Derived.Test.YthkgbjpkklkppaaGreatMa3
set_option linter.unusedSimpArgs false
set_option linter.unusedVariables false
namespace Go.Proofs
open Go.Vc Go.Proofs.Tryz
set_option maxRecDepth 100000
set_option maxHeartbeats 4000000
theorem fo.lens {h0 h:Heap} {bm:Nat} {pre post:List Value} {M:bH} {B:List Nat} {fs:List bL} {f:bL} (I:fo h0 h bm pre post M B) (R:M.au=fs++[f]) :
  ∃ G H vs e c t q r x z B1 g,h bm=some (.cells (pre++aE H (.slice (some ⟨e,0,none⟩) (fs.length+1) c) vs M++post).toArray G (0,0)) /\
   h e=some (.cells (q++[.int .i64 f.aC,.int .i64 f.pc,x,z]++r).toArray t (0,0))/\q.length=fs.length*4/\bR h x f.locals B1/\bR h z f.stack g/\Nd (B1++g)/\(∀ b∈e::(B1++g),h0 b=none/\b∈B) /\
   (∀ b,b∈B1++g->b≠e/\b≠bm)/\e≠bm /\
   ∀ h' f' y C j m,h' e=some (.cells (q++[.int .i64 f'.aC,.int .i64 f'.pc,y,C]++r).toArray t (0,0))->(∀ b,b ∉ e::(B1++g)->h b≠none->h' b=h b)->bR h' y f'.locals j->bR h' C f'.stack m ->
    (∀ b∈j++m,b∈B1++g\/h b=none)->Nd (j++m)->∃ B',fo h0 h' bm pre post {M with au:=fs++[f']} B'/\Ev h h' (bm::B) (bm::B'):=by
 obtain⟨H,vs,e,c,G,t,q,r,x,z,i,B1,g,J,L,hq,o1,o2,nd,S,p,ju⟩:=I.top R;have D:∀ w,(bm::e::(i++B1++g)).count w<=1:=nd;have v:∀ b,b∈B1++g->b≠e/\b≠bm/\b ∉ i:=by
  intro b a;have hp:=List.count_pos_iff.2 a;have o:=D b;simp only[List.count_append,List.count_cons]at hp o;refine⟨?_,?_,?_⟩
  ·rintro rfl;simp at o;omega
  ·rintro rfl;simp at o;omega
  intro d;have:=List.count_pos_iff.2 d;omega
 have F:e≠bm:=by
  rintro rfl;have o:=D e;simp[List.count_cons]at o
 have V:∀ b,b≠bm->b∈bm::e::(i++B1++g)->b∈B:=by
  intro b pV a;have:=(p b).2 a;simpa [pV]using this
 refine⟨G,H,vs,e,c,t,q,r,x,z,B1,g,J,L,hq,o1,o2,?_,?_,λb a=>⟨(v b a).1,(v b a).2.1⟩,F,?_⟩
 ·exact nd.less λw=>by simp only[List.count_append,List.count_cons];omega
 ·intro b a;have d:b∈bm::e::(i++B1++g):=by simp at a ⊢;grind
  refine⟨I.fr b ((p b).2 d),V b ?_ d⟩;rcases List.mem_cons.1 a with rfl|a
  ·exact F
  exact(v b a).2.1
 intro h' f' y C j m k1 E k3 k4 K k6;have N:h' bm=h bm:=E bm (by simp only[List.mem_cons,not_or];exact⟨λd=>F d.symm,λd=>(v _ d).2.1 rfl⟩) (by rw[J];simp);have P:∀ b∈i,b ∉ e::(B1++g):=by
  intro b a d;rcases List.mem_cons.1 d with rfl|d
  ·have o:=D b;have:=List.count_pos_iff.2 a;simp only[List.count_append,List.count_cons]at o;simp at o;omega
  exact(v b d).2.2 a
 have T:cD h h' i:=λb a aa s=>by rw[E b (P b a) (by rw[s];simp)];exact s
 have Y:Nd (bm::e::(i++j++m)):=by
  have:=Nd.swap (A:=bm::e::i) (X:=B1++g) (X':=j++m) (nd.perm λw=>by simp only[List.count_append,List.count_cons];omega) k6 (λb a=>?_)
  ·exact this.perm λw=>by simp only[List.count_append,List.count_cons];omega
  rcases K b a with d|d
  ·exact .inl d
  refine .inr λu=>?_;obtain⟨aa,s⟩:=S b (by simp at u ⊢;grind);rw[d]at s;cases s
 have Q:Ev h h' (bm::B) (bm::e::(i++j++m)):=by
  refine⟨λb a W=>?_,λb a=>?_⟩
  ·refine E b (λd=>W ((p b).2 (by simp at d ⊢;grind))) a
  have:b∈j++m\/b∈bm::e::i:=by simp at a ⊢;grind
  rcases this with d|d
  ·rcases K b d with u|u
   ·exact .inl ((p b).2 (by simp at u ⊢;grind))
   exact .inr u
  exact .inl ((p b).2 (by simp at d ⊢;grind))
 exact ju h' f' y C j m N k1 k3 k4 T Y Q
theorem tJ {h:Heap} {b off:Nat} {pre x post:List Value} {v:Value} {t:TypeId} {K:Heap->Prop} (a:h b=some (.cells (pre++x++post).toArray t (0,0))) {i:Nat} (e:off=pre.length+i) (c:i < x.length)
  (d:K (h.set b (.cells (pre++x.set i v++post).toArray t (0,0)))):St h b off [v] K:=by
 refine st a (by simp;omega) ?_;rw[gW e c];exact d
def eY (u:aS) (to:Int) (a:List Vl):bL:=⟨to,0,a++List.replicate ((aY u to).locals.toNat-a.length) cE,[]⟩
def eZ (u:aS) (to:Int) (a:List Vl) (M:bH):Except Int bH:=if 4<=M.au.length then .error 6 else .ok {M with au:=M.au++[eY u to a]}
def mA (h0 h:Heap) (bm:Nat) (B:List Nat) (r:Except Int bH):Out->Heap->Prop:=λo a=>match o with
 | .ret _=>∃ c,r=.ok c/\∃ b,fo h0 a bm [] [] c b/\Ev h a (bm::B) (bm::b)
 | .jj d=>∃ k,r=.error k/\d=gY k/\Pn h0 bm a
theorem By (n:Nat):(List.replicate n cE).map bM=List.replicate n [Value.bool false,.int .i64 0]:=by rw[List.map_replicate];rfl
theorem zo (h0 h:Heap) (j bm bf off:Nat) (u:aS) (m:cu) (fs:List bL) (f:bL) (M:bH) (B:List Nat) (to:Int) (a:List Vl) (X:Value) (D:List Nat) (e:iQ h0 h j bm bf off u m fs f M B)
  (T:bR h X a D) (Qx:∀ b∈D,b ∉ bm::B/\b≠j) (Kv:0<=to/\to < u.methods.length) (vT:(a.length:Int)<=(aY u to).locals/\(aY u to).locals<=3) :
  cF prog 171 [.pointer (some ⟨j,0,none⟩),.int .i64 to,X] h (mA h0 h bm B (eZ u to a M)):=by
 obtain⟨V,ct,rfl,_⟩:=T.form;have LN:=dP bM a;obtain⟨C,W,⟨c0,r3⟩,ag,cc,ah,af,hu,r9,CN,_⟩:=e.mp;have Ku:M.au.length=fs.length+1:=by rw[e.au];simp
 have L:to.toNat < u.methods.length:=by omega
 obtain⟨p',c',q',d',g,_,kS,_⟩:=hu.form;simp only[List.cons.injEq,Value.slice.injEq,true_and,and_true]at g;obtain⟨⟨rfl,rfl⟩,rfl,rfl⟩:=g;have aa:=kS.get L;obtain⟨bb,oo,ms,vS,x,y⟩:=aa;have CP:aY u to=u.methods[to.toNat]:=fm L O;obtain⟨p1,c1,p2,c2,p3,c3,p4,c4,E,_⟩:=y.form;subst E;have r4:rd h bb (oo+to.toNat*8+4)=some (.int .i64 (aY u to).locals):=by rw[CP];exact aW e.ma.le (aM x (i:=4) rfl)
 refine outs aB func171 Sz U rfl ?_;conv=>whnf
 repeat' ((first|refine ld W ?_|refine ld r3 ?_|refine ay ?_|refine av ?_|refine ptr ?_)<;>conv=>whnf)
 apply aD<;>intro ab;all_goals conv=>whnf
 ·exact⟨6,by rw[eZ,if_pos O],rfl,e.ma.pn⟩
 repeat' ((first|refine ld CN ?_|refine aP vS ?_|refine ld r4 ?_|refine ay ?_|refine av ?_|refine ptr ?_)<;>conv=>whnf)
 refine ob ⟨rfl,O,by show(_:Int)*((16:Nat):Int)<=_;omega,O⟩ ?_;conv=>whnf
 obtain⟨n,N⟩:∃ n,n=(aY u to).locals.toNat:=⟨_,rfl⟩
 rw[<-N];have Z2:a.length<=n:=by omega
 refine dn ((List.replicate n cE).map bM).flatten (by rw[By]) (λb F q z l1 hg=>?_);conv=>whnf
 have mW:(V=none/\(a.map bM).flatten=[])\/∃ w R,V=some ⟨w,R,none⟩/\dQ F w R (Nat.min (a.map bM).length n*2)=some (a.map bM).flatten:=by
  have Tn:Nat.min (a.map bM).length n=a.length:=by rw[List.length_map];exact Nat.min_eq_left Z2
  have d:=bQ (sz:=2) (xs:=a.map bM) (by simp[bM]);rw[Tn];obtain⟨_,⟨g,c,_⟩|⟨w,c2,rest,t,g,_,oU,_,_⟩⟩:=T
  ·simp only[Value.slice.injEq]at g;exact .inl ⟨g.1,by rw[c];rfl⟩
  simp only[Value.slice.injEq]at g;refine .inr ⟨w,0,g.1,?_⟩;rw[List.length_map]at d;rw[bK (l1 _ _ oU) _ _ (by simp only[List.length_append];omega),List.drop_zero,<-d,List.take_left]
 have LX:dU ((List.replicate n cE).map bM).flatten 0 (a.map bM).flatten=((a++List.replicate (n-a.length) cE).map bM).flatten:=by
  have d:=bQ (sz:=2) (xs:=a.map bM) (by simp[bM]);have v:=bQ (sz:=2) (xs:=(List.replicate n cE).map bM) (by simp[bM]);rw[List.length_map]at d v;have:=fK (a.map bM).flatten [] ((List.replicate n cE).map bM).flatten (by rw[d,v];simp;omega);simp only[List.nil_append,List.length_nil]at this;rw[this,List.map_append,List.flatten_append];congr 1
  have QA:List.replicate n cE=List.replicate a.length cE++List.replicate (n-a.length) cE:=by rw[List.replicate_append_replicate];congr 1;omega
  conv=>lhs;rw[QA,List.map_append,List.flatten_append]
  have I:=bQ (sz:=2) (xs:=(List.replicate a.length cE).map bM) (by simp[bM]);rw[List.length_map,List.length_replicate]at I;rw[d,<-I,List.drop_left]
 refine A3 (vs:=(a.map bM).flatten) aB rfl rfl rfl rfl rfl mW hg ?_ (gJ a) ?_
 ·have d:=bQ (sz:=2) (xs:=a.map bM) (by simp[bM]);have v:=bQ (sz:=2) (xs:=(List.replicate n cE).map bM) (by simp[bM]);rw[List.length_map]at d v;rw[d,v];simp;omega
 rw[LX];obtain⟨o,J⟩:∃ o,o=F.set b (.cells ((a++List.replicate (n-a.length) cE).map bM).flatten.toArray 31 (0,0)):=⟨_,rfl⟩
 rw[<-J];have K:o=h.set b (.cells ((a++List.replicate (n-a.length) cE).map bM).flatten.toArray 31 (0,0)):=by rw[J,z,set_set]
 have A:h.le o:=by rw[K];exact Heap.aR (Heap.le_refl h) q
 have S:bR o (.slice (some ⟨b,0,none⟩) n n) (a++List.replicate (n-a.length) cE) [b] :=
  gz (t:=31) (λad c=>by obtain⟨ae,_,rfl⟩:=List.mem_map.1 c;rfl) (by simp;omega) (by rw[K];exact cB _ _ _)
 conv=>whnf
 have Z3:=e.ma.mono A;obtain⟨t,po,co,vo,vs,H,grow⟩:=Z3.wC O;have s:=aW A W;have IJ:rd o bm 1=some (.slice po M.au.length co):=bA H (i:=1) Z rfl;have IA:∀ p∈[b],p ∉ bm::B/\h0 p=none:=by
  intro p G;rw[List.mem_singleton]at G;subst G;refine⟨λc=>?_,?_⟩
  ·obtain⟨Q,P⟩:=e.ma.in p c;rw[q]at P;cases P
  cases z:h0 p with
  | none=>rfl
  | some Q=>rw[e.ma.le p Q z]at q;cases q
 have WA:j≠b:=by
  rintro rfl;unfold rd at C;rw[q]at C;cases C
 have uD:o j≠none:=by
  intro c;unfold rd at s;rw[c]at s;cases s
 repeat' ((first|exact trivial|refine ld s ?_|refine ld IJ ?_|apply And.intro)<;>conv=>whnf)
 all_goals
  refine grow (eY u to a) [b] _ _ ⟨_,_,[b],[],rfl,?_,⟨by simp[eY],.inl ⟨rfl,by simp[eY],rfl⟩⟩,rfl⟩ S.nd IA rfl rfl rfl rfl Z ?_
  ·unfold eY;rw[<-N];exact S
  rintro p' c' h3 x y E ⟨Y,OK,vV⟩;have LY:rd h3 j 11=some (.pointer (some ⟨bm,0,none⟩)):=by
   unfold rd at s ⊢;rw[y j (λc=>e.out (by simp[c])) (by simpa using WA) uD];exact s
  have yE:=x.trans H;conv=>whnf
  (try refine ld LY ?_)
  conv=>whnf
  refine tJ yE (i:=1) rfl (by simp[aE]) ?_;conv=>whnf
  exact⟨_,by rw[eZ,if_neg O],Y,OK,(Ev.of_le A ((bm::B)++[b]) (λad c=>(List.mem_append.1 c).imp id (λc=>by rw[List.mem_singleton.1 c];exact q))).trans vV⟩
theorem jd {h:Heap} {b off:Nat} {pre x post:List Value} {v:Value} {t:TypeId} {K:Heap->Prop} (a:h b=some (.cells (pre++x++post).toArray t (0,0))) {i:Nat} (x':List Value) (e:off=pre.length+i) (c:i < x.length) (f:x.set i v=x')
  (d:∀ h',h'=h.set b (.cells (pre++x'++post).toArray t (0,0))->h' b=some (.cells (pre++x'++post).toArray t (0,0))->K h'):St h b off [v] K:=by
 subst f;exact tJ a e c (d _ rfl (cB _ _ _))
theorem vI {h:Heap} {b off:Nat} {cs:List Value} {vs:List Value} {t:TypeId} {K:Heap->Prop} (c:h b=some (.cells cs.toArray t (0,0))) (a:List Value) (e:off+vs.length<=cs.length) (f:dU cs off vs=a)
  (d:∀ h',h'=h.set b (.cells a.toArray t (0,0))->h' b=some (.cells a.toArray t (0,0))->K h'):St h b off vs K:=by
 subst f;exact st c e (d _ rfl (cB _ _ _))
def lq (v:Vl) (fs:List bL) (M:bH):Except Int bH:=match fs.getLast? with
 | none=>.ok {M with au:=[],fin:=1,out:=v}
 | some g=>if g.stack.length < 4 then .ok {M with au:=fs.dropLast++[{g with stack:=g.stack++[v],pc:=g.pc+1}]}else .error 0
theorem wD (v:Vl) (M:bH):lq v [] M=.ok {M with au:=[],fin:=1,out:=v}:=rfl
theorem oy (v:Vl) (a:List bL) (g:bL) (M:bH):lq v (a++[g]) M=if g.stack.length < 4 then .ok {M with au:=a++[{g with stack:=g.stack++[v],pc:=g.pc+1}]}else .error 0:=by simp[lq]
theorem LZ (h0 h:Heap) (b bm bf off:Nat) (u:aS) (m:cu) (fs:List bL) (f:bL) (M:bH) (B:List Nat) (x:Vl) (o:iQ h0 h b bm bf off u m fs f M B) (hl:M.au.length<=1000)
  (FH:∀ g∈fs,(0<=g.aC/\g.aC < u.methods.length)/\0<=g.pc/\g.pc<=1000) :
  cF prog 174 [.pointer (some ⟨b,0,none⟩),.agg #[.bool x.ref,.int .i64 x.n]] h (mA h0 h bm B (lq x fs M)):=by
 obtain⟨r1,W,⟨c0,r3⟩,T,H,V,I,hu,r9,CN,LU,_⟩:=o.mp;have Ku:M.au.length=fs.length+1:=by rw[o.au];simp
 obtain⟨ab,j,c,v,w,N,ur,y,C,z⟩:=o.ma.IG o.au;have IJ:rd h bm 1=some (.slice j (fs.length+1) c):=bA N (i:=1) Z rfl;have q:b≠bm:=λhx=>o.out (by simp[hx]);refine outs aB func174 SC U rfl ?_;conv=>whnf
 repeat' ((first|refine ld W ?_|refine ld IJ ?_|refine ay ?_|refine av ?_|refine ptr ?_)<;>conv=>whnf)
 have FI:(((fs.length+1:Nat):Int)-1).toNat=fs.length:=by omega
 refine jd N (i:=1) (aE v (.slice j fs.length c) w M) rfl (by simp[aE]) (by rw[FI];rfl) (λd s F=>?_);rw[<-s]at C z;have t:rd d b 11=some (.pointer (some ⟨bm,0,none⟩)):=by rw[s,kq q];exact W
 have Z4:dQ d b 9 2=some [.slice T u.aq.length H,.slice V u.methods.length I]:=by
  have e9:rd d b 9=some (.slice T u.aq.length H):=by rw[s,kq q];exact r9
  have Z5:rd d b 10=some (.slice V u.methods.length I):=by rw[s,kq q];exact CN
  simp only[dQ,e9,Z5]
 have r4:rd d bm 1=some (.slice j fs.length c):=bA F (i:=1) rfl rfl;conv=>whnf
 refine ld t ?_;conv=>whnf
 refine ld r4 ?_;conv=>whnf
 apply aD<;>intro g;all_goals conv=>whnf
 ·have FJ:fs=[]:=List.eq_nil_of_length_eq_zero O;subst FJ;refine ld t ?_;conv=>whnf
  refine jd F (i:=4) (aE v (.slice j 0 c) w {M with fin:=1}) rfl (by simp[aE]) rfl (λA P QB=>?_);have LY:rd A b 11=some (.pointer (some ⟨bm,0,none⟩)):=by rw[P,kq q];exact t
  conv=>whnf
  refine ld LY ?_;conv=>whnf
  refine vI QB ([]++aE v (.slice j 0 c) w {M with fin:=1,out:=x}++[]) (by simp[aE]) rfl (λp tB FK=>?_);obtain⟨t',Nz,Kw,Fl,E,_,_,_,hint⟩:=C.ints;rw[F]at E;simp only[Option.some.injEq,Obj.cells.injEq,Array.mk.injEq,List.nil_append,List.append_nil,aE,List.cons.injEq,and_true,true_and,List.toArray]at E;obtain⟨⟨rfl,rfl,rfl⟩,rfl⟩:=E;have FL:=hint {M with au:=[],fin:=1,out:=x} rfl rfl rfl;obtain⟨K,J⟩:=FL;have zq:p=d.set bm (.cells ([]++aE v (.slice j ([]:List bL).length c) w {M with au:=[],fin:=1,out:=x}++[]).toArray ab (0,0)):=by
   rw[tB,P,set_set];rfl
  rw[<-zq]at K J;conv=>whnf
  exact⟨_,wD x M,_,K,z.trans J⟩
 obtain⟨e,a,rfl⟩:∃ e a,fs=e++[a]:=by
  rcases List.eq_nil_or_concat fs with rfl|⟨e,a,rfl⟩
  ·simp at g
  exact⟨e,a,Z⟩
 have Bz:=FH a Z;repeat' ((first|refine dh Z4 ?_|refine ld t ?_|refine ay ?_|refine av ?_|refine ptr ?_)<;>conv=>whnf)
 refine cO (qE h0 d bm _ u e a _ y C hu rfl Bz.1 (by simp at Ku ⊢;omega)) ?_;rintro ad A ⟨R,Z6,G,S,rfl,uD,Td⟩;refine⟨R,?_⟩;conv=>whnf
 refine cW (mq h0 A Z6 bm G S u _ e a _ y x Td) ?_ ?_
 ·rintro ad p ⟨Q,B3,L0,vV⟩;conv=>whnf
  obtain⟨t3,q3,rr3,v13,p3,c3,X,L,WB,Z7,Z8,s1,s2,ju⟩:=L0.cA;have s3:rd p G (S+1)=some (.int .i64 a.pc):=bA L (i:=1) O rfl;obtain⟨e1,e2,e3,Y,Z9,QC⟩:=ju p _ X (a.stack++[x]) (a.pc+1) (λ_ _ _=>rfl) Z7 (λaa D=>.inl D);refine ld s1 ?_;conv=>whnf
  refine ld s3 ?_;conv=>whnf
  refine av ?_;conv=>whnf
  refine tJ L (i:=1) O Z ?_;conv=>whnf
  refine⟨_,by rw[oy,if_pos Q],Y,?_,z.trans ((Ev.of_le R (bm::y) (λaa D=>.inl D)).trans (vV.trans QC))⟩;exact Z9.ma
 rintro c h' ⟨Q,k2,k3⟩;exact⟨0,by rw[oy,if_neg O],k2,k3⟩
def jk (u:aS) (c pc:Int):List kg->Option kg
 | []=>none
 | k::r=>if (k.lo<=pc/\pc < k.hi)/\up u.aq c k.cls=true then some k else jk u c pc r
def nr (u:aS) (c n:Int):List bL->Option (List bL)
 | []=>none
 | f::r=>match jk u c f.pc (aY u f.aC).catches with
  | some k=>some ({f with pc:=k.to,stack:=[⟨true,n⟩]}::r)
  | none=>nr u c n r
def bU (u:aS) (n:Int) (M:bH):bH:=match nr u (aK M.objs n).cls n M.au.reverse with
 | some l=>{M with au:=l.reverse}
 | none=>{M with au:=[],fin:=2,out:=⟨true,n⟩}
theorem mB (u:aS) (n:Int) (M:bH) (a:List bL) (g:bL):bU u n {M with au:=a++[g]}=match jk u (aK M.objs n).cls g.pc (aY u g.aC).catches with
  | some k=>{M with au:=a++[{g with pc:=k.to,stack:=[⟨true,n⟩]}]}
  | none=>bU u n {M with au:=a}:=by
 simp only[bU,List.reverse_append,List.reverse_cons,List.reverse_nil,List.nil_append,List.singleton_append,nr];cases jk u (aK M.objs n).cls g.pc (aY u g.aC).catches with
 | some k=>simp
 | none=>rfl
theorem jO {u:aS} {c pc:Int}:∀(l:List kg) (i:Nat),(∀ j (b:j < l.length),j < i->¬((l[j].lo<=pc/\pc < l[j].hi)/\up u.aq c l[j].cls=true))->jk u c pc l=jk u c pc (l.drop i)
 | l,0,_=>by simp
 | [],i+1,_=>by simp
 | m::r,i+1,h=>by
  have a:=h 0 Z O;simp only[List.getElem_cons_zero]at a;rw[jk,if_neg a,List.drop_succ_cons];exact jO r i (λj b d=>by have:=h (j+1) (by simpa using b) O;simpa using this)
theorem fo.gh {h0 h:Heap} {bm:Nat} {pre post:List Value} {M:bH} {B:List Nat} (f:fo h0 h bm pre post M B):(∃ p c,rd h bm (pre.length+1)=some (.slice p M.au.length c))/\∃ p c,rd h bm (pre.length+0)=some (.slice p M.objs.length c):=by
 obtain⟨t,m,j,o,a,⟨p,c,d⟩,⟨g,b,e⟩,_,_⟩:=f.ints;exact⟨⟨g,b,bA a (i:=1) rfl (by rw[e];rfl)⟩,⟨p,c,bA a (i:=0) rfl (by rw[d];rfl)⟩⟩
theorem fo.gZ {h0 h:Heap} {bm:Nat} {pre post:List Value} {M:bH} {B:List Nat} (d:fo h0 h bm pre post M B) {n:Int} (m:0 < n) (o:n<=M.objs.length) :
  ∃ a c,rd h bm (pre.length+0)=some (.slice (some ⟨a,0,none⟩) M.objs.length c)/\rd h a (0+(n-1).toNat*2)=some (.int .i64 (aK M.objs n).cls):=by
 have b:(n-1).toNat < M.objs.length:=by omega
 obtain⟨a,c,u,w,x,s,r,t,v,j,e,f,p,_⟩:=d.obj (qA M.objs b);have q:(M.objs.take (n-1).toNat).length=(n-1).toNat:=by simp;omega
 have g:aK M.objs n=M.objs[(n-1).toNat]:=qB b O;exact⟨a,c,bA e (i:=0) rfl rfl,by rw[g];exact bA f (i:=0) O rfl⟩
theorem qF (h0 h:Heap) (bm:Nat) (us:List Value) (u:aS) (M:bH) (B:List Nat) (n:Int) (hM:fo h0 h bm [] [] M B) (hu:cZ h0 us u) (ok:cn u.aq) (J:0 < n/\n<=M.objs.length) (N7:M.objs.length<=1000) (hl:M.au.length<=1000)
  (hc:(aK M.objs n).cls < u.aq.length) (FH:∀ g∈M.au,0<=g.aC/\g.aC < u.methods.length) :
  bI prog 43 [.agg ⟨us⟩,.pointer (some ⟨bm,0,none⟩),.int .i64 n] h λ_ h'=>∃ B',fo h0 h' bm [] [] (bU u n M) B'/\Ev h h' (bm::B) (bm::B'):=by
 have oT:=hu;obtain⟨aa,Q,ad,ab,rfl,hcs,kS,ko,hl2⟩:=hu.form;obtain⟨bo,co,r1,r2⟩:=hM.gZ J.1 J.2;refine bT aB func43 YU U rfl ?_;conv=>whnf
 repeat' ((first|refine ld r1 ?_|refine ld r2 ?_|refine ay ?_|refine av ?_|refine ptr ?_)<;>conv=>whnf)
 refine eu [1,2,3,6] [3] (λs:List bL × Heap × List Nat=>fo h0 s.2.1 bm [] [] {M with au:=s.1} s.2.2/\Ev h s.2.1 (bm::B) (bm::s.2.2)/\bU u n {M with au:=s.1}=bU u n M/\s.1.length<=1000/\∀ g∈s.1,0<=g.aC/\g.aC < u.methods.length) (λs=>s.1.length)
  (λs=>([.v (.pointer (some ⟨bm,0,none⟩)),.v (.int .i64 n),.l 3 0,.v (.int .i64 (aK M.objs n).cls)],[some [.slice aa u.aq.length Q,.slice ad u.methods.length ab]],s.2.1))
  (M.au,h,B) ⟨hM,Ev.refl _ _,rfl,hl,FH⟩ rfl ?_
 rintro⟨fs,d,B1⟩ ⟨m,H,o,we,pH⟩;simp only at m H o we pH ⊢;conv=>whnf
 obtain⟨⟨pf,cf,y⟩,_⟩:=m.gh;simp only[List.length_nil,Nat.zero_add]at y;refine ld y ?_;conv=>whnf
 apply aD<;>intro g0;all_goals conv=>whnf
 ·obtain⟨b,g,rfl⟩:∃ b S,fs=b++[S]:=by
   rcases List.eq_nil_or_concat fs with rfl|⟨b,S,rfl⟩
   ·simp at g0
   exact⟨b,S,Z⟩
  have hg:=pH g Z;have hlen:(b++[g]).length=b.length+1:=by simp
  obtain⟨tm,vo,vs,e,ae,t,qq,r,v1,v2,G,Bs,FM,Y,hq,o1,o2,nd,DJ,pV,ne,ju⟩:=m.lens (fs:=b) (f:=g) rfl;have v:rd d bm 1=some (.slice (some ⟨e,0,none⟩) (b.length+1) ae):=bA FM (i:=1) rfl rfl;rw[y]at v;simp only[Option.some.injEq,Value.slice.injEq]at v;obtain⟨rfl,_,rfl⟩:=v;rw[mB]at o;have BA:0+(((b++[g]).length:Int)-1).toNat*4=b.length*4:=by omega
  have s0:rd d e (0+(((b++[g]).length:Int)-1).toNat*4)=some (.int .i64 g.aC):=by rw[BA];exact bA Y (i:=0) O rfl
  have s1:rd d e (0+(((b++[g]).length:Int)-1).toNat*4+1)=some (.int .i64 g.pc):=by rw[BA];exact bA Y (i:=1) O rfl
  have hi:g.aC.toNat < u.methods.length:=by omega
  have af:=kS.get hi;obtain⟨bb,oo,To,vS,e1,e2⟩:=af;have CP:aY u g.aC=u.methods[g.aC.toNat]:=fm hi O;obtain⟨p1,c1,p2,c2,p3,c3,p4,P,e3,k1,k2,k3,k4,k5,k6,k7,k8,d1,d2,d3,d4⟩:=e2.form;subst e3;have s2:rd d bb (oo+g.aC.toNat*8+7)=some (.slice p4 (aY u g.aC).catches.length P):=by rw[CP];exact aW m.le (aM e1 (i:=7) rfl)
  have L4:Row 4 y9 d (.slice p4 (aY u g.aC).catches.length P) (aY u g.aC).catches:=by rw[CP];exact k8.le m.le (λ_ _ a=>a)
  have d4':(aY u g.aC).catches.length<=140737488351232:=by rw[CP];exact d4
  have FN:eD d (.slice aa u.aq.length Q) u.aq:=hcs.le m.le (λ_ _ a=>a.le m.le);repeat' ((first|refine ld y ?_|refine ld s0 ?_|refine aP vS ?_|refine ld s2 ?_|refine ay ?_|refine av ?_|refine ptr ?_)<;>conv=>whnf)
  refine eu [1,2,3,6,7,44,45,46] [3] (λi:Nat=>i<=(aY u g.aC).catches.length/\∀ j (C:j < (aY u g.aC).catches.length),j < i->¬(((aY u g.aC).catches[j].lo<=g.pc/\g.pc < (aY u g.aC).catches[j].hi)/\up u.aq (aK M.objs n).cls (aY u g.aC).catches[j].cls=true)) (λi=>(aY u g.aC).catches.length-i)
   (λi=>([.v (.pointer (some ⟨bm,0,none⟩)),.v (.int .i64 n),.l 3 0,.v (.int .i64 (aK M.objs n).cls),.v (.pointer (some ⟨e,0+(((b++[g]).length:Int)-1).toNat*4,none⟩)),.v (.slice p4 (aY u g.aC).catches.length P),.v (.int .i64 (aY u g.aC).catches.length),.v (.int .i64 i)],[some [.slice aa u.aq.length Q,.slice ad u.methods.length ab]],d)) 0 ⟨O,λ_ _ a=>O⟩ rfl ?_
  rintro i ⟨hi4,Kx⟩;conv=>whnf
  apply aD<;>intro g5;all_goals conv=>whnf
  ·have lu:i < (aY u g.aC).catches.length:=by omega
   have f:=L4.get lu;obtain⟨bc,oc,Tq,FO,f1,f2,f3⟩:=f;subst f2;have go:¬(((aY u g.aC).catches[i].lo<=g.pc/\g.pc < (aY u g.aC).catches[i].hi)/\up u.aq (aK M.objs n).cls (aY u g.aC).catches[i].cls=true)->∀ j (C:j < (aY u g.aC).catches.length),j < i+1->¬(((aY u g.aC).catches[j].lo<=g.pc/\g.pc < (aY u g.aC).catches[j].hi)/\up u.aq (aK M.objs n).cls (aY u g.aC).catches[j].cls=true):=by
    intro a j C Fm;rcases Nat.lt_succ_iff_lt_or_eq.1 Fm with IK|rfl
    ·exact Kx j C IK
    exact a
   refine ay ?_;conv=>whnf
   refine aP FO ?_;conv=>whnf
   refine dh f1 ?_;conv=>whnf
   repeat' ((first|refine ld s1 ?_|refine aO (Fq _ _ _) ?_|refine ay ?_|refine av ?_|refine ptr ?_)<;>conv=>whnf)
   apply aD<;>intro R;all_goals conv=>whnf
   ·refine aO (sX _ _ _ _ _ _ _ FN ok hc) ?_;conv=>whnf
    apply dM<;>intro I;all_goals conv=>whnf
    ·have L5:jk u (aK M.objs n).cls g.pc (aY u g.aC).catches=some (aY u g.aC).catches[i]:=by
      rw[jO _ i Kx,List.drop_eq_getElem_cons lu,jk,if_pos ⟨R,I⟩]
     rw[L5]at o;simp only at o;refine jd Y (i:=1) [.int .i64 g.aC,.int .i64 (aY u g.aC).catches[i].to,v1,v2] O Z rfl (λT w A=>?_);conv=>whnf
     refine ax (kr _ _) ?_;conv=>whnf
     refine dn [.bool true,.int .i64 n] rfl (λc h3 z tB l3 FK=>?_);conv=>whnf
     have X:d c=none:=by
      rw[w]at z;by_cases HV:c=e
      ·subst HV;simp[Heap.set]at z
      simpa [Heap.set,HV]using z
     have L6:c≠e:=by rintro rfl;rw[A]at z;cases z
     refine jd (l3 _ _ A) (i:=3) [.int .i64 g.aC,.int .i64 (aY u g.aC).catches[i].to,v1,.slice (some ⟨c,0,none⟩) 1 1] O Z rfl (λV Ky L7=>?_);have zu:∀ x,x≠e->x≠c->V x=d x:=by
      intro x D n2;rw[Ky,tB,w];simp[Heap.set,D,n2]
     have Tr:V c=some (.cells [Value.bool true,.int .i64 n].toArray 31 (0,0)):=by
      rw[Ky];simp only[Heap.set,L6,if_false];exact FK
     have W:∀ x∈G,x≠e/\x≠c:=λx a=>⟨(pV x (by simp[a])).1,by rintro rfl;obtain⟨ag,K⟩:=o1.in x a;rw[X]at K;cases K⟩
     obtain⟨L,q,p⟩:=ju V {g with pc:=(aY u g.aC).catches[i].to,stack:=[⟨true,n⟩]} v1 (.slice (some ⟨c,0,none⟩) 1 1) G [c] L7
      (λx a J=>by
       have D:x≠e:=λhy=>a (by simp[hy]);have n2:x≠c:=by rintro rfl;exact J X
       exact zu x D n2)
      (o1.aJ λx a ag K=>by rw[zu x (W x a).1 (W x a).2];exact K)
      (gz (t:=31) (by simp[bM]) rfl (by rw[Tr];rfl))
      (λx a=>by
       rcases List.mem_append.1 a with a|a
       ·exact .inl (by simp[a])
       rw[List.mem_singleton.1 a];exact .inr X)
      (by
       have D:Nd G:=nd.less λN=>by simp only[List.count_append];omega
       intro N;have:=D N;simp only[List.count_append,List.count_cons,List.count_nil];by_cases ha:c=N
       ·subst ha;have:G.count c=0:=List.count_eq_zero.2 λa=>(W c a).2 rfl;simp[this]
       simp[ha];exact this)
     conv=>whnf
     refine⟨L,?_,H.trans p⟩;rw[<-o];exact q
    refine av ?_;conv=>whnf
    refine cT (i+1) ⟨O,go (λa=>by rw[a.2]at I;cases I)⟩ O rfl
   refine av ?_;conv=>whnf
   refine cT (i+1) ⟨O,go (λa=>R a.1)⟩ O rfl
  have L5:jk u (aK M.objs n).cls g.pc (aY u g.aC).catches=none:=by
   rw[jO _ (aY u g.aC).catches.length (λj C _=>Kx j C O),List.drop_length];rfl
  rw[L5]at o;simp only at o;obtain⟨t',L8,c',E,F,FP,ur,L,q,p⟩:=m.IG (fs:=b) (f:=g) rfl;have v:rd d bm 1=some (.slice L8 (b.length+1) c'):=bA FP (i:=1) rfl rfl;rw[y]at v;simp only[Option.some.injEq,Value.slice.injEq]at v;obtain⟨rfl,_,rfl⟩:=v;repeat' ((first|refine ld y ?_|refine ay ?_|refine av ?_|refine ptr ?_)<;>conv=>whnf)
  have FI:(((b++[g]).length:Int)-1).toNat=b.length:=by omega
  refine jd FP (i:=1) (aE E (.slice (some ⟨e,0,none⟩) b.length cf) F {M with au:=b++[g]}) rfl (by simp[aE]) (by rw[FI];rfl) (λT w A=>?_);rw[<-w]at q p;conv=>whnf
  refine cT (b,T,L) ⟨q,H.trans p,o,by simp at we ⊢;omega,λx a=>pH x (by simp[a])⟩ Z rfl
 have FJ:fs=[]:=List.eq_nil_of_length_eq_zero O;subst FJ;obtain⟨t',E,Kw,F,HT,_,_,_,hint⟩:=m.ints;refine jd HT (i:=4) (aE E Kw F {M with au:=[],fin:=2}) rfl (by simp[aE]) rfl (λT w A=>?_);conv=>whnf
 refine ax (kr _ _) ?_;conv=>whnf
 refine vI A ([]++aE E Kw F {M with au:=[],fin:=2,out:=⟨true,n⟩}++[]) (by simp[aE]) rfl (λh3 tB FK=>?_);obtain⟨q,p⟩:=hint {M with au:=[],fin:=2,out:=⟨true,n⟩} rfl rfl rfl;have zq:h3=d.set bm (.cells ([]++aE E Kw F {M with au:=[],fin:=2,out:=⟨true,n⟩}++[]).toArray t' (0,0)):=by
  rw[tB,w,set_set]
 rw[<-zq]at q p;conv=>whnf
 refine⟨B1,?_,H.trans p⟩;rw[<-o];exact q
def eN (u:aS) (x:dc) (b:List Vl) (fs:List bL) (M:bH):Except Int bH :=
 let a:=b.getD 0 cE
 if x.kind=20 then eZ u x.a b M
 else if x.kind=21 then (match dJ M.objs a.n (up u.aq (aK M.objs a.n).cls x.a)with
  | .error e=>.error e
  | .ok o=>eZ u (find u o.cls x.b) b M)
 else if x.kind=22 then lq a fs M
 else if x.kind=23 then (match dJ M.objs a.n (up u.aq (aK M.objs a.n).cls 1)with
  | .error e=>.error e
  | .ok _=>.ok (bU u a.n M))
 else .ok M
theorem mA.trans {h0 h a:Heap} {bm:Nat} {B B1:List Nat} {r:Except Int bH} {o:Out} {h':Heap} (f:Ev h a (bm::B) (bm::B1)) (b:mA h0 a bm B1 r o h'):mA h0 h bm B r o h':=by
 cases o with
 | ret v=>obtain⟨d,e,c,g,i⟩:=b;exact⟨d,e,c,g,f.trans i⟩
 | jj j=>exact b
theorem oz (h0 h:Heap) (s bm C off:Nat) (u:aS) (m:cu) (fs:List bL) (f:bL) (M:bH) (B:List Nat) (x:dc) (q:List Vl) (vt:Value) (K:List Nat) (j:iQ h0 h s bm C off u m fs f M B)
  (E:bR h vt q K) (Qx:∀ b∈K,b ∉ bm::B/\b≠s) (ok:cn u.aq) (hk:20<=x.kind/\x.kind<=23) (hl:M.objs.length<=900) (Ku:M.au.length<=900) (N:FC u M.objs) (tr:∀ v∈q,v.ref=true->0<=v.n/\v.n<=M.objs.length)
  (T:x.kind=20->(0<=x.a/\x.a < u.methods.length)/\((q.length:Int)<=(aY u x.a).locals/\(aY u x.a).locals<=3))
  (Kg:x.kind=21->∃ a r,q=a::r/\a.ref=true) (OL:x.kind=21->∀ c:Int,c < u.aq.length->up u.aq c x.a=true->0<=find u c x.b/\((q.length:Int)<=(aY u (find u c x.b)).locals/\(aY u (find u c x.b)).locals<=3))
  (NA:x.kind=22->∃ a,q=[a]) (WC:x.kind=23->∃ a,q=[a]/\a.ref=true) (FH:∀ t∈M.au,(0<=t.aC/\t.aC < u.methods.length)/\0<=t.pc/\t.pc<=1000) :
  cF prog 136 [.pointer (some ⟨s,0,none⟩),.agg #[.int .i64 x.kind,.int .i64 x.a,.int .i64 x.b],vt] h (mA h0 h bm B (eN u x q fs M)):=by
 obtain⟨P,a,b⟩:=x;simp only at hk T Kg OL NA WC ⊢;obtain⟨pt,ct,rfl,_⟩:=E.form;obtain⟨r1,r2,_,ad,cc,ae,ab,hu,r9,CN,LU,_⟩:=j.mp;have Tj:P=20\/P=21\/P=22\/P=23:=by omega
 rcases Tj with rfl|rfl|rfl|rfl
 ·refine outs aB func136 E7 CE rfl ?_;conv=>whnf
  refine cW (zo h0 h s bm C off u m fs f M B a q _ K j E Qx (T rfl).1 (T rfl).2) ?_ ?_
  ·rintro v F i;conv=>whnf
   exact i
  rintro c F i;exact i
 ·obtain⟨d,Q,rfl,X⟩:=Kg rfl;have hlen:0 < (List.map bM (d::Q)).length:=by simp
  obtain⟨b0,A,_,z⟩:=E.all Z;have w:=(z 0 Z).1;have J:=(z 0 Z).2;simp only[List.getElem_cons_zero]at w J;have p:=tr d Z X;have Y:eN u ⟨21,a,b⟩ (d::Q) fs M=(match dJ M.objs d.n (up u.aq (aK M.objs d.n).cls a)with
   | .error S=>.error S
   | .ok aa=>eZ u (find u aa.cls b) (d::Q) M):=rfl
  rw[Y];refine outs aB func136 E7 CE rfl ?_;conv=>whnf
  repeat' ((first|exact trivial|apply And.intro|refine aP A ?_|refine dh w ?_|refine ay ?_|refine av ?_|refine ptr ?_)<;>conv=>whnf)
  all_goals
   refine od (ot h0 h s bm C off u m fs f M B d a j ok p O (λW=>(N _ (hD W p.2)).1.2)) ?_ ?_
   ·rintro v D ⟨g,e,o,bo,c,s1,rfl⟩;refine⟨g,?_⟩;have G:=j.mono g;obtain⟨ZY,c',R,w2⟩:=G.ma.gZ e p.2;simp only[List.length_nil,Nat.zero_add]at R;rw[s1]at R;simp only[Option.some.injEq,Value.slice.injEq,Addr.mk.injEq,and_true,true_and]at R;obtain⟨rfl,rfl⟩:=R;have L:=(N _ (hD e p.2)).1.2;have Qy:=jc o;have hsend:=OL rfl _ L o;have LV:=hu.le G.ma.le;rw[fe e o];simp only;conv=>whnf
    repeat' ((first|exact trivial|apply And.intro|refine dh (bG g LU) ?_|refine ld (aW g r2) ?_|refine ld s1 ?_|refine aP A ?_|refine ld (aW g J) ?_|refine ld w2 ?_|refine aO (uw _ u _ _ D LV ok O L) ?_|refine ay ?_|refine av ?_|refine ptr ?_)<;>conv=>whnf)
    all_goals
     refine cW (zo h0 D s bm C off u m fs f M B _ (d::Q) _ K G (E.aJ (cD.of_le g _)) Qx ⟨hsend.1,(gK u _ b).2⟩ hsend.2) ?_ ?_
     ·rintro v F i;conv=>whnf
      exact mA.trans (Ev.of_le g (bm::B) (λb H=>.inl H)) i
     rintro c F i;exact mA.trans (Ev.of_le g (bm::B) (λb H=>.inl H)) i
   rintro c D ⟨g,e⟩;have I:=j.ma.Fv g;rcases e with ⟨e,o,y⟩|⟨e,y⟩
   ·exact⟨0,by rw[eT e o],y,I⟩
   exact⟨2,by rw[eU e],y,I⟩
 ·obtain⟨d,rfl⟩:=NA rfl;have hlen:(List.map bM [d]).length=1:=rfl;obtain⟨b0,A,_,z⟩:=E.all Z;have w:=(z 0 Z).1;simp only[List.getElem_cons_zero]at w;refine outs aB func136 E7 CE rfl ?_;conv=>whnf
  repeat' ((first|refine aP A ?_|refine dh w ?_|refine ay ?_|refine av ?_|refine ptr ?_)<;>conv=>whnf)
  refine cW (LZ h0 h s bm C off u m fs f M B d j O (λt V=>FH t (by rw[j.au];simp[V]))) ?_ ?_
  ·rintro v F i;conv=>whnf
   exact i
  rintro c F i;exact i
 obtain⟨d,rfl,X⟩:=WC rfl;have hlen:(List.map bM [d]).length=1:=rfl;obtain⟨b0,A,_,z⟩:=E.all Z;have w:=(z 0 Z).1;have J:=(z 0 Z).2;simp only[List.getElem_cons_zero]at w J;have p:=tr d Z X;have Y:eN u ⟨23,a,b⟩ [d] fs M=(match dJ M.objs d.n (up u.aq (aK M.objs d.n).cls 1)with
  | .error S=>.error S
  | .ok _=>.ok (bU u d.n M)):=rfl
 rw[Y];refine outs aB func136 E7 CE rfl ?_;conv=>whnf
 repeat' ((first|exact trivial|apply And.intro|refine aP A ?_|refine dh w ?_|refine ay ?_|refine av ?_|refine ptr ?_)<;>conv=>whnf)
 all_goals
  refine cW (ot h0 h s bm C off u m fs f M B d 1 j ok p O (λW=>(N _ (hD W p.2)).1.2)) ?_ ?_
  ·rintro v D ⟨g,e,o,bo,c,s1,rfl⟩;have G:=j.mono g;have L:=(N _ (hD e p.2)).1.2;rw[fe e o];simp only;conv=>whnf
   repeat' ((first|exact trivial|apply And.intro|refine dh (bG g LU) ?_|refine ld (aW g r2) ?_|refine aP A ?_|refine ld (aW g J) ?_|refine ay ?_|refine av ?_|refine ptr ?_)<;>conv=>whnf)
   all_goals
    refine aG (qF h0 D bm _ u M B d.n G.ma hu ok ⟨e,p.2⟩ O O L (λt V=>(FH t V).1)) ?_;rintro v h2 ⟨B',k1,k2⟩;conv=>whnf
    exact⟨_,rfl,B',k1,(Ev.of_le g (bm::B) (λb H=>.inl H)).trans k2⟩
  rintro c D ⟨g,e⟩;have I:=j.ma.Fv g;rcases e with ⟨e,o,y⟩|⟨e,y⟩
  ·exact⟨0,by rw[eT e o],y,I⟩
  exact⟨2,by rw[eU e],y,I⟩
abbrev HW:=Except Int (List Ob × bL × List Int × Bool)
def dV (objs:List Ob) (f:bL) (a:List Int) (v:Vl):HW:=match cM objs f v with
 | .ok (o,g)=>.ok (o,g,a,false)
 | .error e=>.error e
def eF (u:aS) (x:dc) (d:List Vl) (objs:List Ob) (f:bL) (a:List Int):HW :=
 let b:=d.getD 0 cE
 let c:=d.getD 1 cE
 if x.kind=1 then dV objs f a ⟨false,x.a⟩
 else if x.kind=2 then dV objs f a ⟨true,0⟩
 else if x.kind=3 then dV objs f a (f.locals.getD x.a.toNat cE)
 else if x.kind=4 then .ok (objs,{f with locals:=f.locals.set x.a.toNat b},a,false)
 else if x.kind=5 then .ok (objs,f,a,false)
 else if x.kind=6 then (match cM objs f b with
  | .ok (_,g)=>dV objs g a b
  | .error e=>.error e)
 else if x.kind=7 then (if (fJ x.a b.n c.n).2 then dV objs f a ⟨false,(fJ x.a b.n c.n).1⟩else .error 1)
 else if x.kind=8 then .ok (objs,f,a,decide (b.n < c.n))
 else if x.kind=9 then .ok (objs,f,a,decide (b.n=c.n))
 else if x.kind=10 then .ok (objs,f,a,decide (b.n=0))
 else if x.kind=11 then .ok (objs,f,a,true)
 else if x.kind=24 then .ok (objs,f,a++[b.n],false)
 else match bt u x d objs f with
  | .ok (o,g)=>.ok (o,g,a,false)
  | .error e=>.error e
def dj:dc:=⟨0,0,0⟩
def ig (u:aS) (fs:List bL) (f:bL) (M:bH):Except Int bH :=
 let a:=(aY u f.aC).code
 if (a.length:Int)<=f.pc then .error 0 else
 let x:=a.getD f.pc.toNat dj
 match dz u x f.stack with
 | none=>.error 0
 | some (eB,rest) =>
  let f1:bL:={f with stack:=rest}
  if 20<=x.kind/\x.kind<=23 then eN u x eB fs {M with au:=fs++[f1]}
  else match eF u x eB M.objs f1 M.said with
   | .error e=>.error e
   | .ok (objs,g,said,goes)=>.ok {M with objs:=objs,said:=said,au:=fs++[{g with pc:=if goes then x.a else f.pc+1}]}
def L9 (n:Nat) (v:Vl):Prop:=v.ref=true->0<=v.n/\v.n<=n
structure OM (u:aS) (n:Nat) (g:bL):Prop where
 aC:0<=g.aC/\g.aC < u.methods.length
 pc:0<=g.pc/\g.pc<=(aY u g.aC).code.length
 loc:(g.locals.length:Int)=(aY u g.aC).locals
 cA:g.stack.length<=4
 vl:∀ v∈g.locals,L9 n v
 vs:∀ v∈g.stack,L9 n v
structure DO (u:aS) (M:bH):Prop where
 objs:FC u M.objs
 len:7<=M.objs.length/\M.objs.length<=400
 bp:∀ o∈M.objs,∀ v∈o.bp,L9 M.objs.length v
 gh:∀ g∈M.au,OM u M.objs.length g
 nf:M.au.length<=4
 said:M.said.length<=400
theorem iz {u:aS} {x:dc} {cA b rest:List Vl} (h:dz u x cA=some (b,rest)):∃ a,cI u x=some a/\b.length=a.length/\gA a b=true/\cA=rest++b:=by
 unfold dz at h;split at h
 ·cases h
 rename_i a d;split at h
 ·cases h
 split at h
 ·rename_i e c;simp only[Option.some.injEq,Prod.mk.injEq]at h;obtain⟨rfl,rfl⟩:=h;exact⟨a,d,by simp;omega,c,Z⟩
 cases h
theorem pI {l:List Vl} (h:l.length=2):∃ a b,l=[a,b]:=by
 match l,h with
 | [a,b],_=>exact⟨a,b,rfl⟩
theorem eK {l:List Vl} (h:l.length=1):∃ a,l=[a]:=by
 match l,h with
 | [a],_=>exact⟨a,rfl⟩
theorem zv {l:List Vl} (h:l.length=3):∃ a b c,l=[a,b,c]:=by
 match l,h with
 | [a,b,c],_=>exact⟨a,b,c,rfl⟩
theorem Ma {l:List Vl} (h:l.length=0):l=[]:=List.eq_nil_of_length_eq_zero h
theorem fB {u:aS} {k:Int} (h:0<=k/\k < u.methods.length):aY u k∈u.methods:=by
 have a:k.toNat < u.methods.length:=by omega
 rw[fm a O];exact List.getElem_mem _
theorem cC.args {u:aS} (b:cC u):∀ m∈u.methods,m.args.length<=2:=λm a=>(b.2.2.2.1 m a).1.2.1
theorem ej.ok {u:aS} {m:cu} {x:dc} (b:cC u) (c:ej u m x):Ki u x:=by
 refine⟨b.1,b.args,λa=>?_,λa=>?_⟩
 ·obtain⟨f,d,e⟩:=x;simp only at a;subst a;have:=(aL (p:=7) (q:=0) rfl).1 c;simp[br]at this;exact this.1.1
 obtain⟨f,d,e⟩:=x;simp only at a;subst a;have:=(aL (p:=5) (q:=9) rfl).1 c;simp[br]at this;exact this.1
theorem iQ.move {h0 h h':Heap} {a bm b off:Nat} {u:aS} {m:cu} {fs:List bL} {f:bL} {M M':bH} {B B':List Nat} (i:iQ h0 h a bm b off u m fs f M B) (g:fo h0 h' bm [] [] M' B') (j:M'.au=M.au) (d:h' a=h a) (e:rd h' bm 1=rd h bm 1) (q:a ∉ bm::B') :
  iQ h0 h' a bm b off u m fs f M' B':=by
 obtain⟨_,o,⟨v,c,s⟩,⟨x,z,y,t,w,p⟩,A⟩:=i;exact⟨g,by rw[j,o],⟨v,c,by rw[e];exact s⟩,⟨x,z,y,by rw[d];exact t,w,p⟩,q⟩
theorem iQ.Ts {h0 h:Heap} {b bm a off:Nat} {u:aS} {m:cu} {fs:List bL} {f:bL} {M:bH} {B:List Nat} (c:iQ h0 h b bm a off u m fs f M B):∃ v B1,rd h a (off+2)=some v/\bR h v f.locals B1:=by
 obtain⟨t,q,r,g,p,B1,j,d,o,e,_⟩:=c.lens;exact⟨g,B1,bA d (i:=2) O rfl,e⟩
theorem iQ.rH {h0 h:Heap} {d bm a off:Nat} {u:aS} {m:cu} {fs:List bL} {f:bL} {M:bH} {B:List Nat} (o:iQ h0 h d bm a off u m fs f M B) :
  ∃ t q r b c,rd h d 0=some (.pointer (some ⟨a,off,none⟩))/\h a=some (.cells (q++[.int .i64 f.aC,.int .i64 f.pc,b,c]++r).toArray t (0,0))/\q.length=off/\rd h a (off+1)=some (.int .i64 f.pc) /\
   ∀ n,∃ B',fo h0 (h.set a (.cells (q++[.int .i64 f.aC,.int .i64 n,b,c]++r).toArray t (0,0))) bm [] [] {M with au:=fs++[{f with pc:=n}]} B'/\Ev h (h.set a (.cells (q++[.int .i64 f.aC,.int .i64 n,b,c]++r).toArray t (0,0))) (bm::B) (bm::B'):=by
 obtain⟨t,q,r,b,C,A,g,e,v,w,_,x,D,y⟩:=o.cA;refine⟨t,q,r,b,_,x,e,v,bA e (i:=1) O rfl,λn=>?_⟩;obtain⟨_,_,_,B',p,j⟩:=y h _ g f.stack n (λ_ _ _=>rfl) w (λz s=>.inl s);exact⟨B',p.ma,j⟩
theorem iQ.uE {h0 h:Heap} {b bm a off:Nat} {u:aS} {m:cu} {fs:List bL} {f:bL} {M:bH} {B:List Nat} {K:Value->Prop} (c:iQ h0 h b bm a off u m fs f M B) (d:K (.pointer (some ⟨a,off,none⟩))):Ld h b 0 K:=ld c.mp.1 d
theorem iQ.ij {h0 h:Heap} {g bm c off:Nat} {u:aS} {m:cu} {fs:List bL} {f:bL} {M:bH} {B:List Nat} {K:Heap->Prop} {n:Int} (j:iQ h0 h g bm c off u m fs f M B)
  (p:∀ a b,fo h0 a bm [] [] {M with au:=fs++[{f with pc:=n}]} b->Ev h a (bm::B) (bm::b)->K a):St h c (off+1) [.int .i64 n] K:=by
 obtain⟨y,w,x,q,s,z,t,C,A,v⟩:=j.rH;refine jd t (i:=1) [.int .i64 f.aC,.int .i64 n,q,s] O Z rfl (λa o _=>?_);obtain⟨b,e,d⟩:=v n;rw[<-o]at e d;exact p a b e d
theorem qG {h h':Heap} {b:Nat} (e:h' b=h b):∀(n off:Nat),dQ h' b off n=dQ h b off n
 | 0,_=>rfl
 | n+1,off=>by
  have:rd h' b off=rd h b off:=by unfold rd;rw[e]
  simp only[dQ,this,qG e n]
theorem bW.blk {h:Heap} {n c b:Nat} {l:List Vl} {B:List Nat} (e:bR h (.slice (some ⟨b,0,none⟩) n c) l B):b∈B/\h b≠none:=by
 obtain⟨_,⟨a,_,_⟩|⟨f,g,rest,t,a,_,d,_,rfl⟩⟩:=e
 ·cases a
 simp only[Value.slice.injEq,Option.some.injEq,Addr.mk.injEq,and_true]at a;rw[a.1];simp[d]
theorem lz {objs:List Ob} {f:bL} {a:List Int} {v:Vl} (h:f.stack.length < 4):dV objs f a v=.ok (objs,{f with stack:=f.stack++[v]},a,false):=by simp[dV,cM,h]
theorem jC {objs:List Ob} {f:bL} {a:List Int} {v:Vl} (h:4<=f.stack.length):dV objs f a v=.error 0:=by
 unfold dV cM;rw[if_neg O]
theorem ee {u:aS} {fs:List bL} {f:bL} {M:bH} {x:dc} {a rest:List Vl} (c:¬((aY u f.aC).code.length:Int)<=f.pc) (h:(aY u f.aC).code.getD f.pc.toNat dj=x) (d:dz u x f.stack=some (a,rest)) (b:¬(20<=x.kind/\x.kind<=23)) :
  ig u fs f M=(match eF u x a M.objs {f with stack:=rest} M.said with
   | .error e=>.error e
   | .ok (objs,g,said,goes)=>.ok {M with objs:=objs,said:=said,au:=fs++[{g with pc:=if goes then x.a else f.pc+1}]}):=by
 unfold ig;simp only[if_neg c,h,d,if_neg b]<;>rfl
theorem oA {u:aS} {fs:List bL} {f:bL} {M:bH} {x:dc} {a rest:List Vl} (c:¬((aY u f.aC).code.length:Int)<=f.pc) (e:(aY u f.aC).code.getD f.pc.toNat dj=x) (d:dz u x f.stack=some (a,rest)) (b:20<=x.kind/\x.kind<=23) :
  ig u fs f M=eN u x a fs {M with au:=fs++[{f with stack:=rest}]}:=by
 unfold ig;simp only[if_neg c,e,d,if_pos b]
set_option maxHeartbeats 40000000
theorem mQ (h0 h:Heap) (A bm y off:Nat) (u:aS) (fs:List bL) (f:bL) (M:bH) (B:List Nat) (a b k:Int) (hk:k=1\/k=2\/k=3\/k=4\/k=5\/k=6\/k=7\/k=8\/k=9\/k=10\/k=11\/k=12) (hS:iQ h0 h A bm y off u (aY u f.aC) fs f M B) (hu:cC u) (hI:DO u M) (N:¬((aY u f.aC).code.length:Int)<=f.pc) (T:(aY u f.aC).code.getD f.pc.toNat dj=⟨k,a,b⟩) :
  cF prog 96 [.pointer (some ⟨A,0,none⟩)] h (mA h0 h bm B (ig u fs f M)):=by
 have FQ:f∈M.au:=by rw[hS.au];simp
 have hF:=hI.gh f FQ;have NB:=hu.2.2.2.1 _ (fB hF.aC);have ok:=hu.1;obtain⟨DP,Tt⟩:=hF.pc;have Mb:=NB.2.1.2.1;obtain⟨r1,r2,_,ah,cc,ai,ag,LV,r9,CN,LU,p2,c2,r6,mR⟩:=hS.mp;obtain⟨t0,q0,WD,v10,v20,_,Tu,IL,s1,_⟩:=hS.rH;have lu:f.pc.toNat < (aY u f.aC).code.length:=by omega
 have HX:(aY u f.aC).code[f.pc.toNat]=⟨k,a,b⟩:=by rw[<-T];simp[lu]
 have aa:=mR.get lu;rw[HX]at aa;obtain⟨bb,oo,xs,vS,e1,e2,e3,e4,e5⟩:=aa;subst e2;have ON:dQ h bb (oo+f.pc.toNat*3) 3=some [.int .i64 k,.int .i64 a,.int .i64 b]:=bG hS.ma.le e1;have S:=NB.2.1.2.2.2.1 _ (List.getElem_mem lu);rw[HX]at S;refine outs aB func96 Qs LC rfl ?_;conv=>whnf
 repeat' ((first|refine ld r1 ?_|refine ld s1 ?_|refine ld r6 ?_|refine ay ?_|refine av ?_|refine ptr ?_)<;>conv=>whnf)
 refine cx N ?_;conv=>whnf
 repeat' ((first|refine ld r1 ?_|refine ld s1 ?_|refine ld r6 ?_|refine aP vS ?_|refine dh ON ?_|refine ay ?_|refine av ?_|refine ptr ?_)<;>conv=>whnf)
 refine cW (Fz h0 h A bm y off u _ fs f M B ⟨k,a,b⟩ hS (ej.ok hu S) (by have:=hF.cA;omega)) ?_ ?_;rotate_left
 ·rintro ab h' ⟨x,k2,k3⟩;refine⟨0,?_,k2,k3⟩;unfold ig;simp only[if_neg N,T,x]
 rintro vt z ⟨eB,rest,pW,G,W,e,I,D,v⟩;obtain⟨ws,tK,R,uf,nu⟩:=iz pW;have FR:rest.length<=4:=by have:=hF.cA;rw[nu]at this;simp at this;omega
 have DQ:∀ ad∈eB,ad.ref=true->0<=ad.n/\ad.n<=M.objs.length:=λad hv=>hF.vs ad (by rw[nu];simp[hv]);rcases hk with rfl|rfl|rfl|rfl|rfl|rfl|rfl|rfl|rfl|rfl|rfl|rfl
 ·have Q:=(aL (u:=u) (m:=aY u f.aC) (a:=a) (b:=b) (k:=1) rfl).1 S;obtain⟨pt,ct,rfl,_⟩:=D.form;obtain⟨t1,q1,uF,v11,uG,t,jP,oL,c,_⟩:=e.rH;have c:rd z y (off+1)=some (.int .i64 f.pc):=c;have Y:∀ b∈W,b ∉ bm::G/\b≠A:=λb g=>⟨(v b g).1,(v b g).2.1⟩
  have j:=ee (fs:=fs) (M:=M) N T pW Z;conv=>whnf
  repeat' ((first|refine ld t ?_|refine ld c ?_|refine ay ?_|refine av ?_|refine ptr ?_)<;>conv=>whnf)
  refine cW (mq h0 z A bm y off u _ fs _ _ G ⟨false,a⟩ e) ?_ ?_
  ·rintro vv J ⟨x,B2,E,L⟩;conv=>whnf
   first|refine E.uE ?_|skip
   conv=>whnf
   refine E.ij (λP o q p=>?_);conv=>whnf
   exact⟨_,(by rw[j];rw[show eF u ⟨1,a,b⟩ eB M.objs {f with stack:=rest} M.said=dV M.objs {f with stack:=rest} M.said ⟨false,a⟩from rfl];rw[lz x];rfl),o,q,I.trans (L.trans p)⟩
  rintro ab J ⟨x,k2,k3⟩;exact⟨0,by rw[j];rw[show eF u ⟨1,a,b⟩ eB M.objs {f with stack:=rest} M.said=dV M.objs {f with stack:=rest} M.said ⟨false,a⟩from rfl];rw[jC x],k2,k3⟩
 ·have Q:=(aL (u:=u) (m:=aY u f.aC) (a:=a) (b:=b) (k:=2) rfl).1 S;obtain⟨pt,ct,rfl,_⟩:=D.form;obtain⟨t1,q1,uF,v11,uG,t,jP,oL,c,_⟩:=e.rH;have c:rd z y (off+1)=some (.int .i64 f.pc):=c;have Y:∀ b∈W,b ∉ bm::G/\b≠A:=λb g=>⟨(v b g).1,(v b g).2.1⟩
  have j:=ee (fs:=fs) (M:=M) N T pW Z;conv=>whnf
  repeat' ((first|refine ld t ?_|refine ld c ?_|refine ay ?_|refine av ?_|refine ptr ?_)<;>conv=>whnf)
  refine ax (kr _ _) ?_;conv=>whnf
  refine cW (mq h0 z A bm y off u _ fs _ _ G ⟨true,0⟩ e) ?_ ?_
  ·rintro vv J ⟨x,B2,E,L⟩;conv=>whnf
   first|refine E.uE ?_|skip
   conv=>whnf
   refine E.ij (λP o q p=>?_);conv=>whnf
   exact⟨_,(by rw[j];rw[show eF u ⟨2,a,b⟩ eB M.objs {f with stack:=rest} M.said=dV M.objs {f with stack:=rest} M.said ⟨true,0⟩from rfl];rw[lz x];rfl),o,q,I.trans (L.trans p)⟩
  rintro ab J ⟨x,k2,k3⟩;exact⟨0,by rw[j];rw[show eF u ⟨2,a,b⟩ eB M.objs {f with stack:=rest} M.said=dV M.objs {f with stack:=rest} M.said ⟨true,0⟩from rfl];rw[jC x],k2,k3⟩
 ·have Q:=(aL (u:=u) (m:=aY u f.aC) (a:=a) (b:=b) (k:=3) rfl).1 S;obtain⟨pt,ct,rfl,_⟩:=D.form;obtain⟨t1,q1,uF,v11,uG,t,jP,oL,c,_⟩:=e.rH;have c:rd z y (off+1)=some (.int .i64 f.pc):=c;have Y:∀ b∈W,b ∉ bm::G/\b≠A:=λb g=>⟨(v b g).1,(v b g).2.1⟩
  have j:=ee (fs:=fs) (M:=M) N T pW Z;have ha:=Q.1;simp[br]at ha;have vT:=hF.loc;have OO:a.toNat < f.locals.length:=by omega
  obtain⟨vl,Bl,l1,ol⟩:=e.Ts;have ol:bR z vl f.locals Bl:=ol;obtain⟨pl,cl,rfl,_⟩:=ol.form;have pJ:0 < f.locals.length:=by omega
  have X:=ol.all pJ;obtain⟨bl,hql,Tv,s⟩:=X;have Tv:(List.map bM f.locals).length=f.locals.length:=Tv;have nl:dQ z bl (0+a.toNat*2) 2=some (bM f.locals[a.toNat]):=(s a.toNat OO).1;conv=>whnf
  repeat' ((first|refine ld t ?_|refine ld c ?_|refine ay ?_|refine av ?_|refine ptr ?_)<;>conv=>whnf)
  repeat' ((first|refine ld t ?_|refine ld l1 ?_|refine aP hql ?_|refine dh nl ?_|refine ay ?_|refine av ?_|refine ptr ?_)<;>conv=>whnf)
  have w:eF u ⟨3,a,b⟩ eB M.objs {f with stack:=rest} M.said=dV M.objs {f with stack:=rest} M.said f.locals[a.toNat]:=by
   show dV _ _ _ (f.locals.getD a.toNat cE)=_;rw[ox OO]
  refine cW (mq h0 z A bm y off u _ fs _ _ G f.locals[a.toNat] e) ?_ ?_
  ·rintro vv J ⟨x,B2,E,L⟩;conv=>whnf
   first|refine E.uE ?_|skip
   conv=>whnf
   refine E.ij (λP o q p=>?_);conv=>whnf
   exact⟨_,(by rw[j,w,lz x];rfl),o,q,I.trans (L.trans p)⟩
  rintro ab J ⟨x,k2,k3⟩;exact⟨0,by rw[j,w,jC x],k2,k3⟩
 ·have Q:=(aL (u:=u) (m:=aY u f.aC) (a:=a) (b:=b) (k:=4) rfl).1 S;have AI:ws=[0]:=by simpa [cI]using tK.symm
  rw[AI]at R uf;obtain⟨d,rfl⟩:=eK R;obtain⟨pt,ct,rfl,_⟩:=D.form;obtain⟨t1,q1,uF,v11,uG,t,jP,oL,c,_⟩:=e.rH;have c:rd z y (off+1)=some (.int .i64 f.pc):=c;have Y:∀ b∈W,b ∉ bm::G/\b≠A:=λb g=>⟨(v b g).1,(v b g).2.1⟩
  have j:=ee (fs:=fs) (M:=M) N T pW Z;have NC:(List.map bM [d]).length=1:=rfl;have pJ:0 < List.length [d]:=by simp
  have X:=D.all pJ;obtain⟨b0,BB,_,s⟩:=X;have V:=(s 0 Z).1;have K:=(s 0 Z).2;simp only[List.getElem_cons_zero,List.getElem_cons_succ]at V K;have ha:=Q.1;simp[br]at ha;have vT:=hF.loc;have OO:a.toNat < f.locals.length:=by omega
  obtain⟨tl,ql,rl,vl1,Tw,Bl1,Bl2,QD,aaa,QE,ol2,WE,_,Tx,aab,aac,Ty⟩:=e.lens;have QE:bR z vl1 f.locals Bl1:=QE;obtain⟨pl,cl,rfl,_⟩:=QE.form;have l1:rd z y (off+2)=some (.slice pl (List.map bM f.locals).length cl):=bA QD (i:=2) O rfl;obtain⟨bl,pre,xx,post,tt0,wB,Tv,HV,Kz,AH,rfl,FE⟩:=bW.put (l:=f.locals) QE OO;conv=>whnf
  repeat' ((first|refine ld t ?_|refine ld c ?_|refine ay ?_|refine av ?_|refine ptr ?_)<;>conv=>whnf)
  repeat' ((first|refine ld t ?_|refine ld l1 ?_|refine aP wB ?_|refine aP BB ?_|refine dh V ?_|refine ay ?_|refine av ?_|refine ptr ?_)<;>conv=>whnf)
  refine vI HV (pre++bM d++post) (by simp[AH,bM,Kz]<;>omega) (jN (by rw[Kz];show 0+a.toNat*2=a.toNat*2;omega) (by rw[AH];rfl)) (λJ HY QB=>?_);have OP:bl≠y:=(Tx bl Z).1;obtain⟨B2,E,L⟩:=Ty J {f with stack:=rest,locals:=f.locals.set a.toNat d} (.slice pl (List.map bM f.locals).length cl) Tw [bl] Bl2 (by rw[HY];simp only[Heap.set,Ne.symm OP,if_false];exact QD)
   (λae F hn=>by rw[HY];simp only[Heap.set];rw[if_neg (λhy=>F (by simp[hy]))])
   (FE J d QB)
   (ol2.aJ λae F af ho=>by
    have hxb:ae≠bl:=by
     rintro rfl;have:=WE ae;have:=List.count_pos_iff.2 F;simp only[List.count_append,List.count_cons,beq_self_eq_true,if_true]at *;omega
    rw[HY];simp only[Heap.set,hxb,if_false];exact ho)
   (λae F=>.inl F) WE
  conv=>whnf
  first|refine E.uE ?_|skip
  conv=>whnf
  refine E.ij (λP o q p=>?_);conv=>whnf
  exact⟨_,(by rw[j];rfl),o,q,I.trans (L.trans p)⟩
 ·have Q:=(aL (u:=u) (m:=aY u f.aC) (a:=a) (b:=b) (k:=5) rfl).1 S;obtain⟨pt,ct,rfl,_⟩:=D.form;obtain⟨t1,q1,uF,v11,uG,t,jP,oL,c,_⟩:=e.rH;have c:rd z y (off+1)=some (.int .i64 f.pc):=c;have Y:∀ b∈W,b ∉ bm::G/\b≠A:=λb g=>⟨(v b g).1,(v b g).2.1⟩
  have j:=ee (fs:=fs) (M:=M) N T pW Z;conv=>whnf
  repeat' ((first|refine ld t ?_|refine ld c ?_|refine ay ?_|refine av ?_|refine ptr ?_)<;>conv=>whnf)
  first|refine e.uE ?_|skip
  conv=>whnf
  refine e.ij (λP o q p=>?_);conv=>whnf
  exact⟨_,(by rw[j];rfl),o,q,I.trans p⟩
 ·have Q:=(aL (u:=u) (m:=aY u f.aC) (a:=a) (b:=b) (k:=6) rfl).1 S;have AI:ws=[0]:=by simpa [cI]using tK.symm
  rw[AI]at R uf;obtain⟨d,rfl⟩:=eK R;obtain⟨pt,ct,rfl,_⟩:=D.form;obtain⟨t1,q1,uF,v11,uG,t,jP,oL,c,_⟩:=e.rH;have c:rd z y (off+1)=some (.int .i64 f.pc):=c;have Y:∀ b∈W,b ∉ bm::G/\b≠A:=λb g=>⟨(v b g).1,(v b g).2.1⟩
  have j:=ee (fs:=fs) (M:=M) N T pW Z;have NC:(List.map bM [d]).length=1:=rfl;have pJ:0 < List.length [d]:=by simp
  have X:=D.all pJ;obtain⟨b0,BB,_,s⟩:=X;have V:=(s 0 Z).1;have K:=(s 0 Z).2;simp only[List.getElem_cons_zero,List.getElem_cons_succ]at V K;have CQ:=bW.blk (b:=b0) (by rw[BB]at D;exact D);conv=>whnf
  repeat' ((first|refine ld t ?_|refine ld c ?_|refine ay ?_|refine av ?_|refine ptr ?_)<;>conv=>whnf)
  repeat' ((first|refine aP BB ?_|refine dh V ?_|refine ay ?_|refine av ?_|refine ptr ?_)<;>conv=>whnf)
  have Tz:rest.length < 4->eF u ⟨6,a,b⟩ [d] M.objs {f with stack:=rest} M.said=dV M.objs {f with stack:=rest++[d]} M.said d:=by
   intro h;show(match cM M.objs {f with stack:=rest} d with | .ok (_,C)=>dV M.objs C M.said d | .error aa=>.error aa)=_;rw[cM,if_pos h]
  have OQ:4<=rest.length->eF u ⟨6,a,b⟩ [d] M.objs {f with stack:=rest} M.said=.error 0:=by
   intro h;show(match cM M.objs {f with stack:=rest} d with | .ok (_,C)=>dV M.objs C M.said d | .error aa=>.error aa)=_;rw[cM,if_neg (by show ¬rest.length < 4;omega)]
  refine cW (mq h0 z A bm y off u _ fs _ _ G d e) ?_ ?_
  ·rintro vv J ⟨x,B2,E,L⟩;have n02:=(qG (L.qv b0 CQ.2 (Y b0 CQ.1).1) 2 (0+0*2)).trans V;conv=>whnf
   repeat' ((first|refine aP BB ?_|refine dh n02 ?_|refine ay ?_|refine av ?_|refine ptr ?_)<;>conv=>whnf)
   refine cW (mq h0 J A bm y off u _ fs _ _ B2 d E) ?_ ?_
   ·rintro vv h3 ⟨k4,B3,L0,vV⟩;conv=>whnf
    first|refine L0.uE ?_|skip
    conv=>whnf
    refine L0.ij (λP o q p=>?_);conv=>whnf
    exact⟨_,(by rw[j,Tz x,lz k4];rfl),o,q,I.trans (L.trans (vV.trans p))⟩
   rintro ab h3 ⟨k4,k5,k6⟩;exact⟨0,by rw[j,Tz x,jC k4],k5,k6⟩
  rintro ab J ⟨x,k2,k3⟩;exact⟨0,by rw[j,OQ x],k2,k3⟩
 ·have Q:=(aL (u:=u) (m:=aY u f.aC) (a:=a) (b:=b) (k:=7) rfl).1 S;have AI:ws=[1,1]:=by simpa [cI]using tK.symm
  rw[AI]at R uf;obtain⟨d,H,rfl⟩:=pI R;obtain⟨pt,ct,rfl,_⟩:=D.form;obtain⟨t1,q1,uF,v11,uG,t,jP,oL,c,_⟩:=e.rH;have c:rd z y (off+1)=some (.int .i64 f.pc):=c;have Y:∀ b∈W,b ∉ bm::G/\b≠A:=λb g=>⟨(v b g).1,(v b g).2.1⟩
  have j:=ee (fs:=fs) (M:=M) N T pW Z;have NC:(List.map bM [d,H]).length=2:=rfl;have pJ:0 < List.length [d,H]:=by simp
  have X:=D.all pJ;obtain⟨b0,BB,_,s⟩:=X;have V:=(s 0 Z).1;have K:=(s 0 Z).2;have n1:=(s 1 Z).1;have m1:=(s 1 Z).2;simp only[List.getElem_cons_zero,List.getElem_cons_succ]at V K n1 m1;conv=>whnf
  repeat' ((first|refine ld t ?_|refine ld c ?_|refine ay ?_|refine av ?_|refine ptr ?_)<;>conv=>whnf)
  repeat' ((first|refine aP BB ?_|refine ld K ?_|refine ld m1 ?_|refine ay ?_|refine av ?_|refine ptr ?_)<;>conv=>whnf)
  have w:eF u ⟨7,a,b⟩ [d,H] M.objs {f with stack:=rest} M.said=(if (fJ a d.n H.n).2 then dV M.objs {f with stack:=rest} M.said ⟨false,(fJ a d.n H.n).1⟩else .error 1):=rfl;refine aO (Fc a d.n H.n z) ?_;unfold Ns;conv=>whnf
  apply cq<;>intro C;all_goals conv=>whnf
  ·exact⟨1,by rw[j,w,C];rfl,rfl,e.ma.pn⟩
  rw[C]at w;refine cW (mq h0 z A bm y off u _ fs _ _ G ⟨false,(fJ a d.n H.n).1⟩ e) ?_ ?_
  ·rintro vv J ⟨x,B2,E,L⟩;conv=>whnf
   first|refine E.uE ?_|skip
   conv=>whnf
   refine E.ij (λP o q p=>?_);conv=>whnf
   exact⟨_,(by rw[j,w,if_pos rfl,lz x];rfl),o,q,I.trans (L.trans p)⟩
  rintro ab J ⟨x,k2,k3⟩;exact⟨0,by rw[j,w,if_pos rfl,jC x],k2,k3⟩
 ·have Q:=(aL (u:=u) (m:=aY u f.aC) (a:=a) (b:=b) (k:=8) rfl).1 S;have AI:ws=[1,1]:=by simpa [cI]using tK.symm
  rw[AI]at R uf;obtain⟨d,H,rfl⟩:=pI R;obtain⟨pt,ct,rfl,_⟩:=D.form;obtain⟨t1,q1,uF,v11,uG,t,jP,oL,c,_⟩:=e.rH;have c:rd z y (off+1)=some (.int .i64 f.pc):=c;have Y:∀ b∈W,b ∉ bm::G/\b≠A:=λb g=>⟨(v b g).1,(v b g).2.1⟩
  have j:=ee (fs:=fs) (M:=M) N T pW Z;have NC:(List.map bM [d,H]).length=2:=rfl;have pJ:0 < List.length [d,H]:=by simp
  have X:=D.all pJ;obtain⟨b0,BB,_,s⟩:=X;have V:=(s 0 Z).1;have K:=(s 0 Z).2;have n1:=(s 1 Z).1;have m1:=(s 1 Z).2;simp only[List.getElem_cons_zero,List.getElem_cons_succ]at V K n1 m1;conv=>whnf
  repeat' ((first|refine ld t ?_|refine ld c ?_|refine ay ?_|refine av ?_|refine ptr ?_)<;>conv=>whnf)
  repeat' ((first|refine aP BB ?_|refine ld K ?_|refine ld m1 ?_|refine ay ?_|refine av ?_|refine ptr ?_)<;>conv=>whnf)
  have w:eF u ⟨8,a,b⟩ [d,H] M.objs {f with stack:=rest} M.said=.ok (M.objs,{f with stack:=rest},M.said,decide (d.n < H.n)):=rfl;apply aD<;>intro C;all_goals conv=>whnf
  ·rw[decide_eq_true C]at w;first|refine e.uE ?_|skip
   conv=>whnf
   refine e.ij (λP o q p=>?_);conv=>whnf
   exact⟨_,(by rw[j,w];rfl),o,q,I.trans p⟩
  rw[decide_eq_false C]at w;first|refine e.uE ?_|skip
  conv=>whnf
  refine e.ij (λP o q p=>?_);conv=>whnf
  exact⟨_,(by rw[j,w];rfl),o,q,I.trans p⟩
 ·have Q:=(aL (u:=u) (m:=aY u f.aC) (a:=a) (b:=b) (k:=9) rfl).1 S;have AI:ws=[1,1]:=by simpa [cI]using tK.symm
  rw[AI]at R uf;obtain⟨d,H,rfl⟩:=pI R;obtain⟨pt,ct,rfl,_⟩:=D.form;obtain⟨t1,q1,uF,v11,uG,t,jP,oL,c,_⟩:=e.rH;have c:rd z y (off+1)=some (.int .i64 f.pc):=c;have Y:∀ b∈W,b ∉ bm::G/\b≠A:=λb g=>⟨(v b g).1,(v b g).2.1⟩
  have j:=ee (fs:=fs) (M:=M) N T pW Z;have NC:(List.map bM [d,H]).length=2:=rfl;have pJ:0 < List.length [d,H]:=by simp
  have X:=D.all pJ;obtain⟨b0,BB,_,s⟩:=X;have V:=(s 0 Z).1;have K:=(s 0 Z).2;have n1:=(s 1 Z).1;have m1:=(s 1 Z).2;simp only[List.getElem_cons_zero,List.getElem_cons_succ]at V K n1 m1;conv=>whnf
  repeat' ((first|refine ld t ?_|refine ld c ?_|refine ay ?_|refine av ?_|refine ptr ?_)<;>conv=>whnf)
  repeat' ((first|refine aP BB ?_|refine ld K ?_|refine ld m1 ?_|refine ay ?_|refine av ?_|refine ptr ?_)<;>conv=>whnf)
  have w:eF u ⟨9,a,b⟩ [d,H] M.objs {f with stack:=rest} M.said=.ok (M.objs,{f with stack:=rest},M.said,decide (d.n=H.n)):=rfl;apply aD<;>intro C;all_goals conv=>whnf
  ·rw[decide_eq_true C]at w;first|refine e.uE ?_|skip
   conv=>whnf
   refine e.ij (λP o q p=>?_);conv=>whnf
   exact⟨_,(by rw[j,w];rfl),o,q,I.trans p⟩
  rw[decide_eq_false C]at w;first|refine e.uE ?_|skip
  conv=>whnf
  refine e.ij (λP o q p=>?_);conv=>whnf
  exact⟨_,(by rw[j,w];rfl),o,q,I.trans p⟩
 ·have Q:=(aL (u:=u) (m:=aY u f.aC) (a:=a) (b:=b) (k:=10) rfl).1 S;have AI:ws=[2]:=by simpa [cI]using tK.symm
  rw[AI]at R uf;obtain⟨d,rfl⟩:=eK R;obtain⟨pt,ct,rfl,_⟩:=D.form;obtain⟨t1,q1,uF,v11,uG,t,jP,oL,c,_⟩:=e.rH;have c:rd z y (off+1)=some (.int .i64 f.pc):=c;have Y:∀ b∈W,b ∉ bm::G/\b≠A:=λb g=>⟨(v b g).1,(v b g).2.1⟩
  have j:=ee (fs:=fs) (M:=M) N T pW Z;have NC:(List.map bM [d]).length=1:=rfl;have pJ:0 < List.length [d]:=by simp
  have X:=D.all pJ;obtain⟨b0,BB,_,s⟩:=X;have V:=(s 0 Z).1;have K:=(s 0 Z).2;simp only[List.getElem_cons_zero,List.getElem_cons_succ]at V K;conv=>whnf
  repeat' ((first|refine ld t ?_|refine ld c ?_|refine ay ?_|refine av ?_|refine ptr ?_)<;>conv=>whnf)
  repeat' ((first|refine aP BB ?_|refine ld K ?_|refine ay ?_|refine av ?_|refine ptr ?_)<;>conv=>whnf)
  have w:eF u ⟨10,a,b⟩ [d] M.objs {f with stack:=rest} M.said=.ok (M.objs,{f with stack:=rest},M.said,decide (d.n=0)):=rfl;apply aD<;>intro C;all_goals conv=>whnf
  ·rw[decide_eq_true C]at w;first|refine e.uE ?_|skip
   conv=>whnf
   refine e.ij (λP o q p=>?_);conv=>whnf
   exact⟨_,(by rw[j,w];rfl),o,q,I.trans p⟩
  rw[decide_eq_false C]at w;first|refine e.uE ?_|skip
  conv=>whnf
  refine e.ij (λP o q p=>?_);conv=>whnf
  exact⟨_,(by rw[j,w];rfl),o,q,I.trans p⟩
 ·have Q:=(aL (u:=u) (m:=aY u f.aC) (a:=a) (b:=b) (k:=11) rfl).1 S;obtain⟨pt,ct,rfl,_⟩:=D.form;obtain⟨t1,q1,uF,v11,uG,t,jP,oL,c,_⟩:=e.rH;have c:rd z y (off+1)=some (.int .i64 f.pc):=c;have Y:∀ b∈W,b ∉ bm::G/\b≠A:=λb g=>⟨(v b g).1,(v b g).2.1⟩
  have j:=ee (fs:=fs) (M:=M) N T pW Z;conv=>whnf
  repeat' ((first|refine ld t ?_|refine ld c ?_|refine ay ?_|refine av ?_|refine ptr ?_)<;>conv=>whnf)
  first|refine e.uE ?_|skip
  conv=>whnf
  refine e.ij (λP o q p=>?_);conv=>whnf
  exact⟨_,(by rw[j];rfl),o,q,I.trans p⟩
 have Q:=(aL (u:=u) (m:=aY u f.aC) (a:=a) (b:=b) (k:=12) rfl).1 S;have AI:ws=[]:=by simpa [cI]using tK.symm
 rw[AI]at R uf;obtain rfl:=Ma R;obtain⟨pt,ct,rfl,_⟩:=D.form;obtain⟨t1,q1,uF,v11,uG,t,jP,oL,c,_⟩:=e.rH;have c:rd z y (off+1)=some (.int .i64 f.pc):=c;have Y:∀ b∈W,b ∉ bm::G/\b≠A:=λb g=>⟨(v b g).1,(v b g).2.1⟩
 have j:=ee (fs:=fs) (M:=M) N T pW Z;have BC:mP u ⟨12,a,b⟩ [] M.objs.length:=⟨λF=>absurd F Z,λF=>absurd F Z,λF=>absurd F Z,λF=>absurd F Z,λF=>absurd F Z,λF=>absurd F Z,λF=>absurd F Z,DQ⟩
 have hop:=Q;simp[br]at hop;have TA:M.objs.length<=900:=by have:=hI.len;omega
 have CR:=fL h0 z A bm y off u _ fs _ _ G ⟨12,a,b⟩ [] _ W e D Y ok Z TA hI.objs BC (by simp;omega) Z Z;have w:eF u ⟨12,a,b⟩ [] M.objs {f with stack:=rest} M.said=(match bt u ⟨12,a,b⟩ [] M.objs {f with stack:=rest}with | .ok (af,C)=>.ok (af,C,M.said,false) | .error aa=>.error aa):=rfl;rw[w]at j;have pK:∀ zw f2,bt u ⟨12,a,b⟩ [] M.objs {f with stack:=rest}=.ok (zw,f2)->ig u fs f M=.ok {M with objs:=zw,au:=fs++[{f2 with pc:=f.pc+1}]}:=by
  intro zw f2 vJ;rw[j,vJ];rfl
 have jQ:∀ aa,bt u ⟨12,a,b⟩ [] M.objs {f with stack:=rest}=.error aa->ig u fs f M=.error aa:=by
  intro aa vJ;rw[j,vJ]
 conv=>whnf
 repeat' ((first|refine ld t ?_|refine ld c ?_|refine ay ?_|refine av ?_|refine ptr ?_)<;>conv=>whnf)
 refine cW CR ?_ ?_
 ·rintro vv J ⟨zw,f2,vJ,B2,E,L⟩;have lA:=pK zw f2 vJ;conv=>whnf
  first|refine E.uE ?_|skip
  conv=>whnf
  refine E.ij (λP o q p=>?_);conv=>whnf
  exact⟨_,lA,o,q,I.trans (L.trans p)⟩
 rintro ab J ⟨k,x,k2,k3⟩;exact⟨k,jQ k x,k2,k3⟩
theorem mS (h0 h:Heap) (v bm C off:Nat) (u:aS) (fs:List bL) (f:bL) (M:bH) (B:List Nat) (a b k:Int) (hk:k=13\/k=14\/k=15\/k=16\/k=17\/k=18\/k=19\/k=20\/k=21\/k=22\/k=23\/k=24) (hS:iQ h0 h v bm C off u (aY u f.aC) fs f M B) (hu:cC u) (w:DO u M) (gp:¬((aY u f.aC).code.length:Int)<=f.pc) (zx:(aY u f.aC).code.getD f.pc.toNat dj=⟨k,a,b⟩)
  (hsend:k=21->∀(eB rest:List Vl) (c:Int),dz u ⟨k,a,b⟩ f.stack=some (eB,rest)->c < u.aq.length->up u.aq c a=true->0<=find u c b/\((eB.length:Int)<=(aY u (find u c b)).locals/\(aY u (find u c b)).locals<=3)) :
  cF prog 96 [.pointer (some ⟨v,0,none⟩)] h (mA h0 h bm B (ig u fs f M)):=by
 have FQ:f∈M.au:=by rw[hS.au];simp
 have hF:=w.gh f FQ;have NB:=hu.2.2.2.1 _ (fB hF.aC);have ok:=hu.1;obtain⟨DP,Tt⟩:=hF.pc;have Mb:=NB.2.1.2.1;obtain⟨r1,r2,_,ad,cc,ae,ab,LV,r9,CN,LU,p2,c2,r6,mR⟩:=hS.mp;obtain⟨t0,q0,WD,v10,v20,_,Tu,IL,s1,_⟩:=hS.rH;have lu:f.pc.toNat < (aY u f.aC).code.length:=by omega
 have HX:(aY u f.aC).code[f.pc.toNat]=⟨k,a,b⟩:=by rw[<-zx];simp[lu]
 have p:=mR.get lu;rw[HX]at p;obtain⟨bb,oo,xs,vS,e1,e2,e3,e4,e5⟩:=p;subst e2;have ON:dQ h bb (oo+f.pc.toNat*3) 3=some [.int .i64 k,.int .i64 a,.int .i64 b]:=bG hS.ma.le e1;have xV:=NB.2.1.2.2.2.1 _ (List.getElem_mem lu);rw[HX]at xV;refine outs aB func96 Qs LC rfl ?_;conv=>whnf
 repeat' ((first|refine ld r1 ?_|refine ld s1 ?_|refine ld r6 ?_|refine ay ?_|refine av ?_|refine ptr ?_)<;>conv=>whnf)
 refine cx gp ?_;conv=>whnf
 repeat' ((first|refine ld r1 ?_|refine ld s1 ?_|refine ld r6 ?_|refine aP vS ?_|refine dh ON ?_|refine ay ?_|refine av ?_|refine ptr ?_)<;>conv=>whnf)
 refine cW (Fz h0 h v bm C off u _ fs f M B ⟨k,a,b⟩ hS (ej.ok hu xV) (by have:=hF.cA;omega)) ?_ ?_;rotate_left
 ·rintro c h' ⟨k1,k2,k3⟩;refine⟨0,?_,k2,k3⟩;unfold ig;simp only[if_neg gp,zx,k1]
 rintro vt y ⟨eB,rest,pW,D,G,z,X,F,E⟩;obtain⟨ws,tK,K,T,nu⟩:=iz pW;have FR:rest.length<=4:=by have:=hF.cA;rw[nu]at this;simp at this;omega
 have DQ:∀ aa∈eB,aa.ref=true->0<=aa.n/\aa.n<=M.objs.length:=λaa hv=>hF.vs aa (by rw[nu];simp[hv]);rcases hk with rfl|rfl|rfl|rfl|rfl|rfl|rfl|rfl|rfl|rfl|rfl|rfl
 ·have V:=(aL (u:=u) (m:=aY u f.aC) (a:=a) (b:=b) (k:=13) rfl).1 xV;have R:ws=[1]:=by simpa [cI]using tK.symm
  rw[R]at K T;obtain⟨e,rfl⟩:=eK K;obtain⟨pt,ct,rfl,_⟩:=F.form;obtain⟨t1,q1,uF,v11,uG,A,jP,oL,g,_⟩:=z.rH;have g:rd y C (off+1)=some (.int .i64 f.pc):=g;have N:∀ b∈G,b ∉ bm::D/\b≠v:=λb t=>⟨(E b t).1,(E b t).2.1⟩
  have x:=ee (fs:=fs) (M:=M) gp zx pW Z;have BC:mP u ⟨13,a,b⟩ [e] M.objs.length:=⟨λ_=>⟨e,rfl⟩,λd=>absurd d Z,λd=>absurd d Z,λd=>absurd d Z,λd=>absurd d Z,λd=>absurd d Z,λd=>absurd d Z,DQ⟩
  have W:=V;simp[br]at W;have Q:M.objs.length<=900:=by have:=w.len;omega
  have P:=fL h0 y v bm C off u _ fs _ _ D ⟨13,a,b⟩ [e] _ G z F N ok Z Q w.objs BC Z (by simp;omega) Z;have sg:eF u ⟨13,a,b⟩ [e] M.objs {f with stack:=rest} M.said=(match bt u ⟨13,a,b⟩ [e] M.objs {f with stack:=rest}with | .ok (o,j)=>.ok (o,j,M.said,false) | .error p=>.error p):=rfl;rw[sg]at x;have pK:∀ s f2,bt u ⟨13,a,b⟩ [e] M.objs {f with stack:=rest}=.ok (s,f2)->ig u fs f M=.ok {M with objs:=s,au:=fs++[{f2 with pc:=f.pc+1}]}:=by
   intro s f2 q;rw[x,q];rfl
  have jQ:∀ p,bt u ⟨13,a,b⟩ [e] M.objs {f with stack:=rest}=.error p->ig u fs f M=.error p:=by
   intro p q;rw[x,q]
  conv=>whnf
  repeat' ((first|refine ld A ?_|refine ld g ?_|refine ay ?_|refine av ?_|refine ptr ?_)<;>conv=>whnf)
  refine cW P ?_ ?_
  ·rintro vv H ⟨s,f2,q,B2,S,zy⟩;have lA:=pK s f2 q;conv=>whnf
   first|refine S.uE ?_|skip
   conv=>whnf
   refine S.ij (λh9 Y BD BE=>?_);conv=>whnf
   exact⟨_,lA,Y,BD,X.trans (zy.trans BE)⟩
  rintro c H ⟨k,k1,k2,k3⟩;exact⟨k,jQ k k1,k2,k3⟩
 ·have V:=(aL (u:=u) (m:=aY u f.aC) (a:=a) (b:=b) (k:=14) rfl).1 xV;have R:ws=[2]:=by simpa [cI]using tK.symm
  rw[R]at K T;obtain⟨e,rfl⟩:=eK K;have qH:e.ref=true:=by cases d:e.ref with
   | true=>rfl
   | false=>simp[gA,d]at T
  obtain⟨pt,ct,rfl,_⟩:=F.form;obtain⟨t1,q1,uF,v11,uG,A,jP,oL,g,_⟩:=z.rH;have g:rd y C (off+1)=some (.int .i64 f.pc):=g;have N:∀ b∈G,b ∉ bm::D/\b≠v:=λb t=>⟨(E b t).1,(E b t).2.1⟩
  have x:=ee (fs:=fs) (M:=M) gp zx pW Z;have BC:mP u ⟨14,a,b⟩ [e] M.objs.length:=⟨λd=>absurd d Z,λ_=>⟨e,rfl,qH⟩,λd=>absurd d Z,λd=>absurd d Z,λd=>absurd d Z,λd=>absurd d Z,λd=>absurd d Z,DQ⟩
  have W:=V;simp[br]at W;have Q:M.objs.length<=900:=by have:=w.len;omega
  have P:=fL h0 y v bm C off u _ fs _ _ D ⟨14,a,b⟩ [e] _ G z F N ok Z Q w.objs BC Z Z Z;have sg:eF u ⟨14,a,b⟩ [e] M.objs {f with stack:=rest} M.said=(match bt u ⟨14,a,b⟩ [e] M.objs {f with stack:=rest}with | .ok (o,j)=>.ok (o,j,M.said,false) | .error p=>.error p):=rfl;rw[sg]at x;have pK:∀ s f2,bt u ⟨14,a,b⟩ [e] M.objs {f with stack:=rest}=.ok (s,f2)->ig u fs f M=.ok {M with objs:=s,au:=fs++[{f2 with pc:=f.pc+1}]}:=by
   intro s f2 q;rw[x,q];rfl
  have jQ:∀ p,bt u ⟨14,a,b⟩ [e] M.objs {f with stack:=rest}=.error p->ig u fs f M=.error p:=by
   intro p q;rw[x,q]
  conv=>whnf
  repeat' ((first|refine ld A ?_|refine ld g ?_|refine ay ?_|refine av ?_|refine ptr ?_)<;>conv=>whnf)
  refine cW P ?_ ?_
  ·rintro vv H ⟨s,f2,q,B2,S,zy⟩;have lA:=pK s f2 q;conv=>whnf
   first|refine S.uE ?_|skip
   conv=>whnf
   refine S.ij (λh9 Y BD BE=>?_);conv=>whnf
   exact⟨_,lA,Y,BD,X.trans (zy.trans BE)⟩
  rintro c H ⟨k,k1,k2,k3⟩;exact⟨k,jQ k k1,k2,k3⟩
 ·have V:=(aL (u:=u) (m:=aY u f.aC) (a:=a) (b:=b) (k:=15) rfl).1 xV;have R:ws=[2,1]:=by simpa [cI]using tK.symm
  rw[R]at K T;obtain⟨e,L,rfl⟩:=pI K;have qH:e.ref=true:=by cases d:e.ref with
   | true=>rfl
   | false=>simp[gA,d]at T
  obtain⟨pt,ct,rfl,_⟩:=F.form;obtain⟨t1,q1,uF,v11,uG,A,jP,oL,g,_⟩:=z.rH;have g:rd y C (off+1)=some (.int .i64 f.pc):=g;have N:∀ b∈G,b ∉ bm::D/\b≠v:=λb t=>⟨(E b t).1,(E b t).2.1⟩
  have x:=ee (fs:=fs) (M:=M) gp zx pW Z;have BC:mP u ⟨15,a,b⟩ [e,L] M.objs.length:=⟨λd=>absurd d Z,λd=>absurd d Z,λ_=>⟨e,L,rfl,qH⟩,λd=>absurd d Z,λd=>absurd d Z,λd=>absurd d Z,λd=>absurd d Z,DQ⟩
  have W:=V;simp[br]at W;have Q:M.objs.length<=900:=by have:=w.len;omega
  have P:=fL h0 y v bm C off u _ fs _ _ D ⟨15,a,b⟩ [e,L] _ G z F N ok Z Q w.objs BC Z Z Z;have sg:eF u ⟨15,a,b⟩ [e,L] M.objs {f with stack:=rest} M.said=(match bt u ⟨15,a,b⟩ [e,L] M.objs {f with stack:=rest}with | .ok (o,j)=>.ok (o,j,M.said,false) | .error p=>.error p):=rfl;rw[sg]at x;have pK:∀ s f2,bt u ⟨15,a,b⟩ [e,L] M.objs {f with stack:=rest}=.ok (s,f2)->ig u fs f M=.ok {M with objs:=s,au:=fs++[{f2 with pc:=f.pc+1}]}:=by
   intro s f2 q;rw[x,q];rfl
  have jQ:∀ p,bt u ⟨15,a,b⟩ [e,L] M.objs {f with stack:=rest}=.error p->ig u fs f M=.error p:=by
   intro p q;rw[x,q]
  conv=>whnf
  repeat' ((first|refine ld A ?_|refine ld g ?_|refine ay ?_|refine av ?_|refine ptr ?_)<;>conv=>whnf)
  refine cW P ?_ ?_
  ·rintro vv H ⟨s,f2,q,B2,S,zy⟩;have lA:=pK s f2 q;conv=>whnf
   first|refine S.uE ?_|skip
   conv=>whnf
   refine S.ij (λh9 Y BD BE=>?_);conv=>whnf
   exact⟨_,lA,Y,BD,X.trans (zy.trans BE)⟩
  rintro c H ⟨k,k1,k2,k3⟩;exact⟨k,jQ k k1,k2,k3⟩
 ·have V:=(aL (u:=u) (m:=aY u f.aC) (a:=a) (b:=b) (k:=16) rfl).1 xV;have R:ws=[2,1,0]:=by simpa [cI]using tK.symm
  rw[R]at K T;obtain⟨e,L,v2,rfl⟩:=zv K;have qH:e.ref=true:=by cases d:e.ref with
   | true=>rfl
   | false=>simp[gA,d]at T
  obtain⟨pt,ct,rfl,_⟩:=F.form;obtain⟨t1,q1,uF,v11,uG,A,jP,oL,g,_⟩:=z.rH;have g:rd y C (off+1)=some (.int .i64 f.pc):=g;have N:∀ b∈G,b ∉ bm::D/\b≠v:=λb t=>⟨(E b t).1,(E b t).2.1⟩
  have x:=ee (fs:=fs) (M:=M) gp zx pW Z;have BC:mP u ⟨16,a,b⟩ [e,L,v2] M.objs.length:=⟨λd=>absurd d Z,λd=>absurd d Z,λd=>absurd d Z,λ_=>⟨e,L,v2,rfl,qH⟩,λd=>absurd d Z,λd=>absurd d Z,λd=>absurd d Z,DQ⟩
  have W:=V;simp[br]at W;have Q:M.objs.length<=900:=by have:=w.len;omega
  have P:=fL h0 y v bm C off u _ fs _ _ D ⟨16,a,b⟩ [e,L,v2] _ G z F N ok Z Q w.objs BC Z Z Z;have sg:eF u ⟨16,a,b⟩ [e,L,v2] M.objs {f with stack:=rest} M.said=(match bt u ⟨16,a,b⟩ [e,L,v2] M.objs {f with stack:=rest}with | .ok (o,j)=>.ok (o,j,M.said,false) | .error p=>.error p):=rfl;rw[sg]at x;have pK:∀ s f2,bt u ⟨16,a,b⟩ [e,L,v2] M.objs {f with stack:=rest}=.ok (s,f2)->ig u fs f M=.ok {M with objs:=s,au:=fs++[{f2 with pc:=f.pc+1}]}:=by
   intro s f2 q;rw[x,q];rfl
  have jQ:∀ p,bt u ⟨16,a,b⟩ [e,L,v2] M.objs {f with stack:=rest}=.error p->ig u fs f M=.error p:=by
   intro p q;rw[x,q]
  conv=>whnf
  repeat' ((first|refine ld A ?_|refine ld g ?_|refine ay ?_|refine av ?_|refine ptr ?_)<;>conv=>whnf)
  refine cW P ?_ ?_
  ·rintro vv H ⟨s,f2,q,B2,S,zy⟩;have lA:=pK s f2 q;conv=>whnf
   first|refine S.uE ?_|skip
   conv=>whnf
   refine S.ij (λh9 Y BD BE=>?_);conv=>whnf
   exact⟨_,lA,Y,BD,X.trans (zy.trans BE)⟩
  rintro c H ⟨k,k1,k2,k3⟩;exact⟨k,jQ k k1,k2,k3⟩
 ·have V:=(aL (u:=u) (m:=aY u f.aC) (a:=a) (b:=b) (k:=17) rfl).1 xV;have R:ws=[2]:=by simpa [cI]using tK.symm
  rw[R]at K T;obtain⟨e,rfl⟩:=eK K;have qH:e.ref=true:=by cases d:e.ref with
   | true=>rfl
   | false=>simp[gA,d]at T
  obtain⟨pt,ct,rfl,_⟩:=F.form;obtain⟨t1,q1,uF,v11,uG,A,jP,oL,g,_⟩:=z.rH;have g:rd y C (off+1)=some (.int .i64 f.pc):=g;have N:∀ b∈G,b ∉ bm::D/\b≠v:=λb t=>⟨(E b t).1,(E b t).2.1⟩
  have x:=ee (fs:=fs) (M:=M) gp zx pW Z;have BC:mP u ⟨17,a,b⟩ [e] M.objs.length:=⟨λd=>absurd d Z,λd=>absurd d Z,λd=>absurd d Z,λd=>absurd d Z,λ_=>⟨e,rfl,qH⟩,λd=>absurd d Z,λd=>absurd d Z,DQ⟩
  have W:=V;simp[br]at W;have Q:M.objs.length<=900:=by have:=w.len;omega
  have P:=fL h0 y v bm C off u _ fs _ _ D ⟨17,a,b⟩ [e] _ G z F N ok Z Q w.objs BC (by simp;omega) Z (by simp;omega);have sg:eF u ⟨17,a,b⟩ [e] M.objs {f with stack:=rest} M.said=(match bt u ⟨17,a,b⟩ [e] M.objs {f with stack:=rest}with | .ok (o,j)=>.ok (o,j,M.said,false) | .error p=>.error p):=rfl;rw[sg]at x;have pK:∀ s f2,bt u ⟨17,a,b⟩ [e] M.objs {f with stack:=rest}=.ok (s,f2)->ig u fs f M=.ok {M with objs:=s,au:=fs++[{f2 with pc:=f.pc+1}]}:=by
   intro s f2 q;rw[x,q];rfl
  have jQ:∀ p,bt u ⟨17,a,b⟩ [e] M.objs {f with stack:=rest}=.error p->ig u fs f M=.error p:=by
   intro p q;rw[x,q]
  conv=>whnf
  repeat' ((first|refine ld A ?_|refine ld g ?_|refine ay ?_|refine av ?_|refine ptr ?_)<;>conv=>whnf)
  refine cW P ?_ ?_
  ·rintro vv H ⟨s,f2,q,B2,S,zy⟩;have lA:=pK s f2 q;conv=>whnf
   first|refine S.uE ?_|skip
   conv=>whnf
   refine S.ij (λh9 Y BD BE=>?_);conv=>whnf
   exact⟨_,lA,Y,BD,X.trans (zy.trans BE)⟩
  rintro c H ⟨k,k1,k2,k3⟩;exact⟨k,jQ k k1,k2,k3⟩
 ·have V:=(aL (u:=u) (m:=aY u f.aC) (a:=a) (b:=b) (k:=18) rfl).1 xV;have R:ws=[2,0]:=by simpa [cI]using tK.symm
  rw[R]at K T;obtain⟨e,L,rfl⟩:=pI K;have qH:e.ref=true:=by cases d:e.ref with
   | true=>rfl
   | false=>simp[gA,d]at T
  obtain⟨pt,ct,rfl,_⟩:=F.form;obtain⟨t1,q1,uF,v11,uG,A,jP,oL,g,_⟩:=z.rH;have g:rd y C (off+1)=some (.int .i64 f.pc):=g;have N:∀ b∈G,b ∉ bm::D/\b≠v:=λb t=>⟨(E b t).1,(E b t).2.1⟩
  have x:=ee (fs:=fs) (M:=M) gp zx pW Z;have BC:mP u ⟨18,a,b⟩ [e,L] M.objs.length:=⟨λd=>absurd d Z,λd=>absurd d Z,λd=>absurd d Z,λd=>absurd d Z,λd=>absurd d Z,λ_=>⟨e,L,rfl,qH⟩,λd=>absurd d Z,DQ⟩
  have W:=V;simp[br]at W;have Q:M.objs.length<=900:=by have:=w.len;omega
  have P:=fL h0 y v bm C off u _ fs _ _ D ⟨18,a,b⟩ [e,L] _ G z F N ok Z Q w.objs BC (by simp;omega) Z (by simp;omega);have sg:eF u ⟨18,a,b⟩ [e,L] M.objs {f with stack:=rest} M.said=(match bt u ⟨18,a,b⟩ [e,L] M.objs {f with stack:=rest}with | .ok (o,j)=>.ok (o,j,M.said,false) | .error p=>.error p):=rfl;rw[sg]at x;have pK:∀ s f2,bt u ⟨18,a,b⟩ [e,L] M.objs {f with stack:=rest}=.ok (s,f2)->ig u fs f M=.ok {M with objs:=s,au:=fs++[{f2 with pc:=f.pc+1}]}:=by
   intro s f2 q;rw[x,q];rfl
  have jQ:∀ p,bt u ⟨18,a,b⟩ [e,L] M.objs {f with stack:=rest}=.error p->ig u fs f M=.error p:=by
   intro p q;rw[x,q]
  conv=>whnf
  repeat' ((first|refine ld A ?_|refine ld g ?_|refine ay ?_|refine av ?_|refine ptr ?_)<;>conv=>whnf)
  refine cW P ?_ ?_
  ·rintro vv H ⟨s,f2,q,B2,S,zy⟩;have lA:=pK s f2 q;conv=>whnf
   first|refine S.uE ?_|skip
   conv=>whnf
   refine S.ij (λh9 Y BD BE=>?_);conv=>whnf
   exact⟨_,lA,Y,BD,X.trans (zy.trans BE)⟩
  rintro c H ⟨k,k1,k2,k3⟩;exact⟨k,jQ k k1,k2,k3⟩
 ·have V:=(aL (u:=u) (m:=aY u f.aC) (a:=a) (b:=b) (k:=19) rfl).1 xV;have R:ws=[2]:=by simpa [cI]using tK.symm
  rw[R]at K T;obtain⟨e,rfl⟩:=eK K;have qH:e.ref=true:=by cases d:e.ref with
   | true=>rfl
   | false=>simp[gA,d]at T
  obtain⟨pt,ct,rfl,_⟩:=F.form;obtain⟨t1,q1,uF,v11,uG,A,jP,oL,g,_⟩:=z.rH;have g:rd y C (off+1)=some (.int .i64 f.pc):=g;have N:∀ b∈G,b ∉ bm::D/\b≠v:=λb t=>⟨(E b t).1,(E b t).2.1⟩
  have x:=ee (fs:=fs) (M:=M) gp zx pW Z;have BC:mP u ⟨19,a,b⟩ [e] M.objs.length:=⟨λd=>absurd d Z,λd=>absurd d Z,λd=>absurd d Z,λd=>absurd d Z,λd=>absurd d Z,λd=>absurd d Z,λ_=>⟨e,rfl,qH⟩,DQ⟩
  have W:=V;simp[br]at W;have Q:M.objs.length<=900:=by have:=w.len;omega
  have P:=fL h0 y v bm C off u _ fs _ _ D ⟨19,a,b⟩ [e] _ G z F N ok Z Q w.objs BC (by simp;omega) Z Z;have sg:eF u ⟨19,a,b⟩ [e] M.objs {f with stack:=rest} M.said=(match bt u ⟨19,a,b⟩ [e] M.objs {f with stack:=rest}with | .ok (o,j)=>.ok (o,j,M.said,false) | .error p=>.error p):=rfl;rw[sg]at x;have pK:∀ s f2,bt u ⟨19,a,b⟩ [e] M.objs {f with stack:=rest}=.ok (s,f2)->ig u fs f M=.ok {M with objs:=s,au:=fs++[{f2 with pc:=f.pc+1}]}:=by
   intro s f2 q;rw[x,q];rfl
  have jQ:∀ p,bt u ⟨19,a,b⟩ [e] M.objs {f with stack:=rest}=.error p->ig u fs f M=.error p:=by
   intro p q;rw[x,q]
  conv=>whnf
  repeat' ((first|refine ld A ?_|refine ld g ?_|refine ay ?_|refine av ?_|refine ptr ?_)<;>conv=>whnf)
  refine cW P ?_ ?_
  ·rintro vv H ⟨s,f2,q,B2,S,zy⟩;have lA:=pK s f2 q;conv=>whnf
   first|refine S.uE ?_|skip
   conv=>whnf
   refine S.ij (λh9 Y BD BE=>?_);conv=>whnf
   exact⟨_,lA,Y,BD,X.trans (zy.trans BE)⟩
  rintro c H ⟨k,k1,k2,k3⟩;exact⟨k,jQ k k1,k2,k3⟩
 ·have V:=(aL (u:=u) (m:=aY u f.aC) (a:=a) (b:=b) (k:=20) rfl).1 xV;have R:ws=List.replicate (aY u a).args.length 0:=by simpa [cI]using tK.symm
  obtain⟨pt,ct,rfl,_⟩:=F.form;obtain⟨t1,q1,uF,v11,uG,A,jP,oL,g,_⟩:=z.rH;have g:rd y C (off+1)=some (.int .i64 f.pc):=g;have N:∀ b∈G,b ∉ bm::D/\b≠v:=λb t=>⟨(E b t).1,(E b t).2.1⟩
  have jR:=oA (fs:=fs) (M:=M) gp zx pW Z;have W:=V.1;simp[br]at W;have Mc:=(hu.2.2.2.1 _ (fB W.1)).1;have vT:(eB.length:Int)<=(aY u a).locals/\(aY u a).locals<=3:=by
   have e1:=Mc.2.2.2.2.1;have e2:=Mc.2.2.2.2.2;have e3:(aY u a).args.length<=(cj (aY u a)).length:=by simp[cj]
   rw[R]at K;simp at K;omega
  have uH:=hS.au;have BF:(fs++[{f with stack:=rest}]).length<=900:=by have:=w.nf;rw[uH]at this;simp at this ⊢;omega
  have pH:∀(j:bL),j∈fs++[{f with stack:=rest}]->(0<=j.aC/\j.aC < u.methods.length)/\0<=j.pc/\j.pc<=1000:=by
   intro j J;rcases List.mem_append.1 J with J|J
   ·have hG:=w.gh j (by rw[uH];simp[J]);have TC:=(hu.2.2.2.1 _ (fB hG.aC)).2.1.2.1;have:=hG.pc;exact⟨hG.aC,this.1,O⟩
   rw[List.mem_singleton.1 J];exact⟨hF.aC,DP,by show f.pc<=1000;omega⟩
  have Q:M.objs.length<=900:=by have:=w.len;omega
  have P:=oz h0 y v bm C off u _ fs _ _ D ⟨20,a,b⟩ eB _ G z F N ok Z Q BF w.objs DQ (λ_=>⟨W.1,vT⟩) Z Z Z Z pH;conv=>whnf
  repeat' ((first|refine ld A ?_|refine ld g ?_|refine ay ?_|refine av ?_|refine ptr ?_)<;>conv=>whnf)
  refine cW P ?_ ?_
  ·rintro vv H hh;have I:=mA.trans X hh;rw[<-jR]at I;conv=>whnf
   exact I
  rintro c H hh;have I:=mA.trans X hh;rw[<-jR]at I;exact I
 ·have V:=(aL (u:=u) (m:=aY u f.aC) (a:=a) (b:=b) (k:=21) rfl).1 xV;have hsend:=hsend rfl;obtain⟨pt,ct,rfl,_⟩:=F.form;obtain⟨t1,q1,uF,v11,uG,A,jP,oL,g,_⟩:=z.rH;have g:rd y C (off+1)=some (.int .i64 f.pc):=g;have N:∀ b∈G,b ∉ bm::D/\b≠v:=λb t=>⟨(E b t).1,(E b t).2.1⟩
  have jR:=oA (fs:=fs) (M:=M) gp zx pW Z;have TE:∃ e rr,eB=e::rr/\e.ref=true:=by
   simp[cI]at tK;obtain⟨_,rfl⟩:=tK;match eB,K,T with
   | e::rr,_,T =>
    refine⟨e,rr,rfl,?_⟩;cases d:e.ref with
    | true=>rfl
    | false=>simp[gA,d]at T
  have uH:=hS.au;have BF:(fs++[{f with stack:=rest}]).length<=900:=by have:=w.nf;rw[uH]at this;simp at this ⊢;omega
  have pH:∀(j:bL),j∈fs++[{f with stack:=rest}]->(0<=j.aC/\j.aC < u.methods.length)/\0<=j.pc/\j.pc<=1000:=by
   intro j J;rcases List.mem_append.1 J with J|J
   ·have hG:=w.gh j (by rw[uH];simp[J]);have TC:=(hu.2.2.2.1 _ (fB hG.aC)).2.1.2.1;have:=hG.pc;exact⟨hG.aC,this.1,O⟩
   rw[List.mem_singleton.1 J];exact⟨hF.aC,DP,by show f.pc<=1000;omega⟩
  have Q:M.objs.length<=900:=by have:=w.len;omega
  have P:=oz h0 y v bm C off u _ fs _ _ D ⟨21,a,b⟩ eB _ G z F N ok Z Q BF w.objs DQ Z (λ_=>TE) (λ_ c hc hu=>hsend eB rest c pW hc hu) Z Z pH;conv=>whnf
  repeat' ((first|refine ld A ?_|refine ld g ?_|refine ay ?_|refine av ?_|refine ptr ?_)<;>conv=>whnf)
  refine cW P ?_ ?_
  ·rintro vv H hh;have I:=mA.trans X hh;rw[<-jR]at I;conv=>whnf
   exact I
  rintro c H hh;have I:=mA.trans X hh;rw[<-jR]at I;exact I
 ·have V:=(aL (u:=u) (m:=aY u f.aC) (a:=a) (b:=b) (k:=22) rfl).1 xV;have R:ws=[0]:=by simpa [cI]using tK.symm
  rw[R]at K T;obtain⟨e,rfl⟩:=eK K;obtain⟨pt,ct,rfl,_⟩:=F.form;obtain⟨t1,q1,uF,v11,uG,A,jP,oL,g,_⟩:=z.rH;have g:rd y C (off+1)=some (.int .i64 f.pc):=g;have N:∀ b∈G,b ∉ bm::D/\b≠v:=λb t=>⟨(E b t).1,(E b t).2.1⟩
  have jR:=oA (fs:=fs) (M:=M) gp zx pW Z;have uH:=hS.au;have BF:(fs++[{f with stack:=rest}]).length<=900:=by have:=w.nf;rw[uH]at this;simp at this ⊢;omega
  have pH:∀(j:bL),j∈fs++[{f with stack:=rest}]->(0<=j.aC/\j.aC < u.methods.length)/\0<=j.pc/\j.pc<=1000:=by
   intro j J;rcases List.mem_append.1 J with J|J
   ·have hG:=w.gh j (by rw[uH];simp[J]);have TC:=(hu.2.2.2.1 _ (fB hG.aC)).2.1.2.1;have:=hG.pc;exact⟨hG.aC,this.1,O⟩
   rw[List.mem_singleton.1 J];exact⟨hF.aC,DP,by show f.pc<=1000;omega⟩
  have Q:M.objs.length<=900:=by have:=w.len;omega
  have P:=oz h0 y v bm C off u _ fs _ _ D ⟨22,a,b⟩ [e] _ G z F N ok Z Q BF w.objs DQ Z Z Z (λ_=>⟨e,rfl⟩) Z pH;conv=>whnf
  repeat' ((first|refine ld A ?_|refine ld g ?_|refine ay ?_|refine av ?_|refine ptr ?_)<;>conv=>whnf)
  refine cW P ?_ ?_
  ·rintro vv H hh;have I:=mA.trans X hh;rw[<-jR]at I;conv=>whnf
   exact I
  rintro c H hh;have I:=mA.trans X hh;rw[<-jR]at I;exact I
 ·have V:=(aL (u:=u) (m:=aY u f.aC) (a:=a) (b:=b) (k:=23) rfl).1 xV;have R:ws=[2]:=by simpa [cI]using tK.symm
  rw[R]at K T;obtain⟨e,rfl⟩:=eK K;have qH:e.ref=true:=by cases d:e.ref with
   | true=>rfl
   | false=>simp[gA,d]at T
  obtain⟨pt,ct,rfl,_⟩:=F.form;obtain⟨t1,q1,uF,v11,uG,A,jP,oL,g,_⟩:=z.rH;have g:rd y C (off+1)=some (.int .i64 f.pc):=g;have N:∀ b∈G,b ∉ bm::D/\b≠v:=λb t=>⟨(E b t).1,(E b t).2.1⟩
  have jR:=oA (fs:=fs) (M:=M) gp zx pW Z;have uH:=hS.au;have BF:(fs++[{f with stack:=rest}]).length<=900:=by have:=w.nf;rw[uH]at this;simp at this ⊢;omega
  have pH:∀(j:bL),j∈fs++[{f with stack:=rest}]->(0<=j.aC/\j.aC < u.methods.length)/\0<=j.pc/\j.pc<=1000:=by
   intro j J;rcases List.mem_append.1 J with J|J
   ·have hG:=w.gh j (by rw[uH];simp[J]);have TC:=(hu.2.2.2.1 _ (fB hG.aC)).2.1.2.1;have:=hG.pc;exact⟨hG.aC,this.1,O⟩
   rw[List.mem_singleton.1 J];exact⟨hF.aC,DP,by show f.pc<=1000;omega⟩
  have Q:M.objs.length<=900:=by have:=w.len;omega
  have P:=oz h0 y v bm C off u _ fs _ _ D ⟨23,a,b⟩ [e] _ G z F N ok Z Q BF w.objs DQ Z Z Z Z (λ_=>⟨e,rfl,qH⟩) pH;conv=>whnf
  repeat' ((first|refine ld A ?_|refine ld g ?_|refine ay ?_|refine av ?_|refine ptr ?_)<;>conv=>whnf)
  refine cW P ?_ ?_
  ·rintro vv H hh;have I:=mA.trans X hh;rw[<-jR]at I;conv=>whnf
   exact I
  rintro c H hh;have I:=mA.trans X hh;rw[<-jR]at I;exact I
 have V:=(aL (u:=u) (m:=aY u f.aC) (a:=a) (b:=b) (k:=24) rfl).1 xV;have R:ws=[1]:=by simpa [cI]using tK.symm
 rw[R]at K T;obtain⟨e,rfl⟩:=eK K;obtain⟨pt,ct,rfl,_⟩:=F.form;obtain⟨t1,q1,uF,v11,uG,A,jP,oL,g,_⟩:=z.rH;have g:rd y C (off+1)=some (.int .i64 f.pc):=g;have N:∀ b∈G,b ∉ bm::D/\b≠v:=λb t=>⟨(E b t).1,(E b t).2.1⟩
 have x:=ee (fs:=fs) (M:=M) gp zx pW Z;have NC:(List.map bM [e]).length=1:=rfl;have pJ:0 < List.length [e]:=by simp
 have e9:=F.all pJ;obtain⟨b0,BB,_,vO⟩:=e9;have n0:=(vO 0 Z).1;have m0:=(vO 0 Z).2;simp only[List.getElem_cons_zero,List.getElem_cons_succ]at n0 m0;have TF:=z.mp.2.1;obtain⟨tb,ps,cs,vo,vf,FM,grow⟩:=z.ma.Ks (by have:=w.said;show M.said.length<=1000;omega);have hps:rd y bm 2=some (.slice ps M.said.length cs):=bA FM (i:=2) rfl rfl;have uD:y v≠none:=by
  intro d;unfold rd at A;rw[d]at A;cases A
 have mX:=z.out;conv=>whnf
 repeat' ((first|refine ld A ?_|refine ld g ?_|refine ay ?_|refine av ?_|refine ptr ?_)<;>conv=>whnf)
 repeat' ((first|exact trivial|refine ld TF ?_|refine ld hps ?_|apply And.intro|refine aP BB ?_|refine ld m0 ?_|refine ay ?_)<;>conv=>whnf)
 all_goals
  refine grow e.n [] _ _ ⟨rfl,rfl⟩ (λ_=>Z) Z rfl rfl rfl rfl Z ?_;rintro p' c' H e1 e2 e3 ⟨B2,OK,vV⟩;have TG:rd H v 11=some (.pointer (some ⟨bm,0,none⟩)):=by
   unfold rd at TF ⊢;rw[e2 v (λd=>mX (by simp[d])) Z uD];exact TF
  have yE:=e1.trans FM;conv=>whnf
  (try refine ld TG ?_)
  conv=>whnf
  refine jd yE (i:=2) (aE vo vf (.slice p' (M.said.length+1) c') {M with au:=fs++[{f with stack:=rest}]}) rfl (by simp[aE]) rfl (λh3 tB FK=>?_);have TH:v≠bm:=λd=>mX (by simp[d]);have TJ:fo h0 h3 bm [] [] {M with au:=fs++[{f with stack:=rest}],said:=M.said++[e.n]} B2:=by rw[tB];exact OK
  have L0:=z.move (h':=h3) TJ rfl (by rw[tB];simp only[Heap.set,TH,if_false];exact e2 v (λd=>mX (by simp[d])) Z uD)
   (by
    have z1:rd h3 bm 1=some vf:=bA FK (i:=1) rfl rfl;have z2:rd y bm 1=some vf:=bA FM (i:=1) rfl rfl;rw[z1,z2])
   (λd=>by
    rcases vV.new v d with hy|hy
    ·exact mX (by simpa using hy)
    exact uD hy)
  have QC:Ev y h3 (bm::D) (bm::B2):=by rw[tB];simpa using vV
  conv=>whnf
  first|refine L0.uE ?_|skip
  conv=>whnf
  refine L0.ij (λh9 Y BD BE=>?_);conv=>whnf
  exact⟨_,(by rw[x];rfl),Y,BD,X.trans (QC.trans BE)⟩
def xW (u:aS) (f:bL):Prop:=∀(x:dc) (a rest:List Vl) (c:Int),x∈(aY u f.aC).code->x.kind=21->dz u x f.stack=some (a,rest)->c < u.aq.length->up u.aq c x.a=true->0<=find u c x.b/\((a.length:Int)<=(aY u (find u c x.b)).locals/\(aY u (find u c x.b)).locals<=3)
theorem TK (h0 h:Heap) (b bm g off:Nat) (u:aS) (fs:List bL) (f:bL) (M:bH) (B:List Nat) (a:iQ h0 h b bm g off u (aY u f.aC) fs f M B) (j:cC u) (i:DO u M) (E:xW u f) :
  cF prog 96 [.pointer (some ⟨b,0,none⟩)] h (mA h0 h bm B (ig u fs f M)):=by
 by_cases c:((aY u f.aC).code.length:Int)<=f.pc
 ·obtain⟨G,r2,_,Y,P,aa,Q,X,r9,CN,LU,p2,N,H,S⟩:=a.mp;obtain⟨t0,q0,WD,v10,v20,_,R,W,I,_⟩:=a.rH;refine outs aB func96 Qs LC rfl ?_;conv=>whnf
  repeat' ((first|refine ld G ?_|refine ld I ?_|refine ld H ?_|refine ay ?_|refine av ?_|refine ptr ?_)<;>conv=>whnf)
  refine eR c ?_;conv=>whnf
  exact⟨0,by unfold ig;rw[if_pos c],rfl,a.ma.pn⟩
 have A:f∈M.au:=by rw[a.au];simp
 have p:=i.gh f A;have D:=j.2.2.2.1 _ (fB p.aC);obtain⟨T,V⟩:=p.pc;have C:f.pc.toNat < (aY u f.aC).code.length:=by omega
 have o:(aY u f.aC).code[f.pc.toNat]∈(aY u f.aC).code:=List.getElem_mem _;have v:=D.2.1.2.2.2.1 _ o;have m:(aY u f.aC).code.getD f.pc.toNat dj=(aY u f.aC).code[f.pc.toNat]:=by simp[C]
 generalize (aY u f.aC).code[f.pc.toNat]=L at o v m;obtain⟨F,d,e⟩:=L;cases s:oS F with
 | none=>exact absurd v (by rintro⟨_,_,t,_⟩;rw[s]at t;cases t)
 | some K =>
 obtain⟨wa,wb⟩:=K;have q:=rT s;simp only[ir,dZ,List.mem_cons,List.not_mem_nil,or_false,Prod.mk.injEq]at q;rcases q with ⟨rfl,_⟩|⟨rfl,_⟩|⟨rfl,_⟩|⟨rfl,_⟩|⟨rfl,_⟩|⟨rfl,_⟩|⟨rfl,_⟩|⟨rfl,_⟩|⟨rfl,_⟩|⟨rfl,_⟩|⟨rfl,_⟩|⟨rfl,_⟩|⟨rfl,_⟩|⟨rfl,_⟩|⟨rfl,_⟩|⟨rfl,_⟩|⟨rfl,_⟩|⟨rfl,_⟩|⟨rfl,_⟩|⟨rfl,_⟩|⟨rfl,_⟩|⟨rfl,_⟩|⟨rfl,_⟩|⟨rfl,_⟩
 ·exact mQ h0 h b bm g off u fs f M B d e 1 Z a j i c m
 ·exact mQ h0 h b bm g off u fs f M B d e 2 Z a j i c m
 ·exact mQ h0 h b bm g off u fs f M B d e 3 Z a j i c m
 ·exact mQ h0 h b bm g off u fs f M B d e 4 Z a j i c m
 ·exact mQ h0 h b bm g off u fs f M B d e 5 Z a j i c m
 ·exact mQ h0 h b bm g off u fs f M B d e 6 Z a j i c m
 ·exact mQ h0 h b bm g off u fs f M B d e 7 Z a j i c m
 ·exact mQ h0 h b bm g off u fs f M B d e 8 Z a j i c m
 ·exact mQ h0 h b bm g off u fs f M B d e 9 Z a j i c m
 ·exact mQ h0 h b bm g off u fs f M B d e 10 Z a j i c m
 ·exact mQ h0 h b bm g off u fs f M B d e 11 Z a j i c m
 ·exact mQ h0 h b bm g off u fs f M B d e 12 Z a j i c m
 ·exact mS h0 h b bm g off u fs f M B d e 13 Z a j i c m (λh=>absurd h (by decide))
 ·exact mS h0 h b bm g off u fs f M B d e 14 Z a j i c m (λh=>absurd h (by decide))
 ·exact mS h0 h b bm g off u fs f M B d e 15 Z a j i c m (λh=>absurd h (by decide))
 ·exact mS h0 h b bm g off u fs f M B d e 16 Z a j i c m (λh=>absurd h (by decide))
 ·exact mS h0 h b bm g off u fs f M B d e 17 Z a j i c m (λh=>absurd h (by decide))
 ·exact mS h0 h b bm g off u fs f M B d e 18 Z a j i c m (λh=>absurd h (by decide))
 ·exact mS h0 h b bm g off u fs f M B d e 19 Z a j i c m (λh=>absurd h (by decide))
 ·exact mS h0 h b bm g off u fs f M B d e 20 Z a j i c m (λh=>absurd h (by decide))
 ·exact mS h0 h b bm g off u fs f M B d e 21 Z a j i c m (λ_=>λJ rest w x y z=>E ⟨21,d,e⟩ J rest w o rfl x y z)
 ·exact mS h0 h b bm g off u fs f M B d e 22 Z a j i c m (λh=>absurd h (by decide))
 ·exact mS h0 h b bm g off u fs f M B d e 23 Z a j i c m (λh=>absurd h (by decide))
 exact mS h0 h b bm g off u fs f M B d e 24 Z a j i c m (λh=>absurd h (by decide))
def mC (i:Int):Ob:=⟨1,[⟨false,i⟩]⟩
def fT (n:Nat):List Ob:=(List.range n).map λ(i:Nat)=>mC ((i:Int)+1)
def mD (u:aS):bH:=⟨fT 7,[⟨0,0,List.replicate (aY u 0).locals.toNat cE,[]⟩],[],0,0,cE⟩
theorem xX (n:Nat):fT (n+1)=fT n++[mC ((n:Int)+1)]:=by simp[fT,List.range_succ]
theorem ku (n:Nat):(fT n).length=n:=by simp[fT]
theorem IM:∀ w:World,(Go.binOp .eql 20 .nilIface .nilIface).run prog w=.ok (.bool true) w:=λ_=>by kernel_rfl
theorem FT (v:Value):∀ w:World,(Go.binOp .eql 20 (.iface 83 v) .nilIface).run prog w=.ok (.bool false) w:=λ_=>by kernel_rfl
theorem FU (v:Value):∀ w:World,(Instr.typeAssert (.iface 83 v) 20 83 true).run prog w=.ok (.tuple #[v,.bool true]) w:=λ_=>by kernel_rfl
theorem DR {res:List ResultVar} {R:Value->Heap->Prop} {e:Env} {b c:Nat} {h:Heap} (a:fy sig e h res λvs=>iZ (λv=>R v h) vs) :
  A5 prog sig res R 94 [.pointer (some ⟨b,0,none⟩),.pointer (some ⟨c,0,none⟩)] .returning e h:=by
 refine CC aB Ry (k:=2) (v:=.nilIface) (.inl ⟨rfl,rfl⟩) func94 rfl rfl On rfl ?_;conv=>whnf
 refine fI rfl rfl (λw=>by simp[eqGuard]) IM ?_;conv=>whnf
 exact a
theorem zz {res:List ResultVar} {R:Value->Heap->Prop} {e:Env} {a c:Nat} {x k:Int} {d:Bool} {t4 t5:TypeId} {h:Heap} (p:h a=some (.cells #[.int .i64 x] t4 (0,0))) (q:h c=some (.cells #[.bool d] t5 (0,0))) (i:a≠c)
  (w:∀ h':Heap,h' a=some (.cells #[.int .i64 k] t4 (0,0))->h' c=some (.cells #[.bool false] t5 (0,0))->(∀ b,b≠a->b≠c->h b≠none->h' b=h b)->fy sig e h' res λvs=>iZ (λv=>R v h') vs) :
  A5 prog sig res R 94 [.pointer (some ⟨a,0,none⟩),.pointer (some ⟨c,0,none⟩)] (.panicking (gY k)) e h:=by
 refine CC aB Ry (k:=2) (.inr rfl) func94 rfl rfl On rfl ?_;conv=>whnf
 refine fI rfl rfl (λz=>by simp[eqGuard]) (FT _) ?_;conv=>whnf
 refine ey rfl (FU _) ?_;conv=>whnf
 refine vI p [.int .i64 k] Z rfl (λy f j=>?_);conv=>whnf
 refine vI (cs:=[.bool d]) (t:=t5) (by rw[f];simp only[Heap.set,i.symm,if_false];exact q) [.bool false] Z rfl (λo g m=>?_);conv=>whnf
 refine w o ?_ m (λb s u _=>?_)
 ·rw[g];simp only[Heap.set,i,if_false];exact j
 rw[g,f];simp only[Heap.set,s,u,if_false]
theorem fo.OR {h0 h e:Heap} {bm c d:Nat} {M:bH} {B:List Nat} (u:fo h0 h bm [] [] M B) (j:h.le e) (m:h c=none) (p:h d=none):∃ f:Heap,h0.le f/\f c=e c/\f d=e d/\fo f e bm [] [] M B:=by
 obtain⟨le,⟨y,z,a,own⟩,nd,t⟩:=u;have s:∀ b,h b=none->h0 b=none:=λb a=>by
  cases v:h0 b with
  | none=>rfl
  | some o=>rw[le b o v]at a;cases a
 have w:=own.in;refine⟨λb=>if b=c\/b=d then e b else h0 b,λb o a=>?_,Z,Z,?_,⟨y,z,j _ _ a,own.aJ (cD.of_le j _)⟩,nd,λb g=>?_⟩
 ·have:¬(b=c\/b=d):=by
   rintro(rfl|rfl)
   ·rw[s _ m]at a;cases a
   rw[s _ p]at a;cases a
  simp only[this,if_false];exact a
 ·intro b o a;by_cases q:b=c\/b=d
  ·simp only[q,if_true]at a;exact a
  simp only[q,if_false]at a;exact j _ _ (le _ _ a)
 have:¬(b=c\/b=d):=by
  have x:∃ o,h b=some o:=by
   rcases List.mem_cons.1 g with rfl|g
   ·exact⟨_,a⟩
   exact w b g
  obtain⟨o,i⟩:=x;rintro(rfl|rfl)
  ·rw[m]at i;cases i
  rw[p]at i;cases i
 simp only[this,if_false];exact t b g
def TL (h0 h:Heap) (bm:Nat) (B:List Nat):Except Int bH->Value->Heap->Prop
 | .ok M',v,h'=>v=.tuple #[.agg #[.int .i64 0],.bool true]/\∃ a,fo h0 h' bm [] [] M' a/\Ev h h' (bm::B) (bm::a)
 | .error k,v,h'=>v=.tuple #[.agg #[.int .i64 k],.bool false]/\Pn h0 bm h'
theorem DS (h0 h:Heap) (bm:Nat) (us:List Value) (u:aS) (fs:List bL) (f:bL) (M:bH) (B:List Nat) (r:Except Int bH) (hr:ig u fs f M=r) (i:fo h0 h bm [] [] M B) (hu:cZ h0 us u) (hf:M.au=fs++[f])
  (hT:cC u) (G:DO u M) (hsend:xW u f) :
  bI prog 42 [.agg ⟨us⟩,.pointer (some ⟨bm,0,none⟩)] h (TL h0 h bm B r):=by
 have FQ:f∈M.au:=by rw[hf];simp
 have hF:=G.gh f FQ;have oT:=hu;obtain⟨ae,cc,af,ad,rfl,hcs,kS,ko,hl2⟩:=hu.form;refine y8 aB YT (k:=2) 3 func42 U rfl rfl rfl rfl rfl rfl rfl rfl ?_;conv=>whnf
 refine dn [.int .i64 0] rfl (λj h1 v e4 K S=>?_);conv=>whnf
 refine dn [.bool false] rfl (λg h2 w C L g5=>?_);conv=>whnf
 have H:j≠g:=by rintro rfl;rw[S]at w;cases w
 have x:h g=none:=by
  cases d:h g with
  | none=>rfl
  | some o=>rw[K _ _ d]at w;cases w
 have g42:=L _ _ S;have OS:=i.OR (Heap.le_trans K L) v x;refine OS.elim (λT s=>?_);have I:=s.2.1.trans g42;have J:=s.2.2.1.trans g5;have hMt:=s.2.2.2;have z:=s.1;refine aG (qE T h2 bm _ u fs f M B hMt (oT.le z) hf hF.aC (by have:=G.nf;omega)) (λaa V hn=>?_);refine hn.2.elim λbs WG=>WG.elim λbf hn3=>hn3.elim λoff QF=>?_;have hS:=QF.2.2;have hv:=QF.1;subst hv;conv=>whnf
 have Y:=TK T V bs bm bf off u fs f M B hS hT G hsend;rw[hr]at Y;refine cW Y (λaa D d=>?_) (λab D d=>?_)
 ·refine d.elim λM' e=>e.2.elim λP tB=>?_;have m:=tB.1;have R:=tB.2;have hrM:=e.1;have q4:=m.le _ _ I;have q5:=m.le _ _ J;conv=>whnf
  refine vI q4 [.int .i64 0] Z rfl (λh5 C f5=>?_);conv=>whnf
  refine vI (cs:=[.bool false]) (t:=4) (by rw[C];simp only[Heap.set,H.symm,if_false];exact q5) [.bool true] Z rfl (λE Q f6=>?_);conv=>whnf
  have f56:E j=some (.cells [Value.int .i64 0].toArray 83 (0,0)):=by rw[Q];simp only[Heap.set,H,if_false];exact f5
  refine DR ?_;conv=>whnf
  repeat' ((first|refine dh (vs:=[.int .i64 0]) (by simp[dQ,rd,f56]) ?_|refine ld (bF f6 rfl) ?_|refine ay ?_|refine av ?_|refine ptr ?_)<;>conv=>whnf)
  subst hrM;have hle:h.le V:=Heap.le_trans (Heap.le_trans K L) hn.1;have F:∀ b,b≠j->b≠g->E b=D b:=λb p q=>by rw[Q,C];simp only[Heap.set,p,q,if_false]
  have A:∀ b o,h b=some o->b≠j/\b≠g:=λb o a=>⟨(by rintro rfl;rw[v]at a;cases a),(by rintro rfl;rw[x]at a;cases a)⟩
  have mW:∀ b∈bm::P,E b=D b:=λb c=>F b (by rintro rfl;have:=m.fr b c;rw[I]at this;cases this) (by rintro rfl;have:=m.fr b c;rw[J]at this;cases this);obtain⟨le4,⟨mc,N,y,own⟩,IN,fr4⟩:=m;refine⟨rfl,P,⟨λb o a=>?_,⟨mc,N,by rw[mW bm Z];exact y,own.aJ λb c o a=>by rw[mW b (by simp[c])];exact a⟩,IN,λb c=>?_⟩,λb c QG=>?_,λb c=>?_⟩
  ·rw[F b (A b o (i.le b o a)).1 (A b o (i.le b o a)).2];exact le4 _ _ (z _ _ a)
  ·cases d:h0 b with
   | none=>rfl
   | some o=>have:=z b o d;rw[fr4 b c]at this;cases this
  ·cases a:h b with
   | none=>exact absurd a c
   | some o=>rw[F b (A b o a).1 (A b o a).2,R.qv b (by rw[hle b o a];simp) QG,hle b o a]
  refine(R.new b c).imp id λX=>?_;cases a:h b with
  | none=>rfl
  | some o=>rw[hle b o a]at X;cases X
 refine d.elim λk e=>?_;have hrk:=e.1;have hck:=e.2.1;have hle:=e.2.2.1;have FV:=e.2.2.2;subst hrk;subst hck;conv=>whnf
 refine zz (hle _ _ I) (hle _ _ J) H (λh5 f4 f5 aJ=>?_);conv=>whnf
 repeat' ((first|refine dh (vs:=[.int .i64 k]) (by simp[dQ,rd,f4]) ?_|refine ld (bF f5 rfl) ?_|refine ay ?_|refine av ?_|refine ptr ?_)<;>conv=>whnf)
 refine⟨rfl,λb o a=>?_,?_⟩
 ·have p:b≠j:=by rintro rfl;have:=i.le b o a;rw[v]at this;cases this
  have q:b≠g:=by rintro rfl;have:=i.le b o a;rw[x]at this;cases this
  have W:=hle _ _ (z _ _ a);rw[aJ b p q (by rw[W];simp)];exact W
 obtain⟨To,N,y,hlen⟩:=FV;obtain⟨o,a⟩:=i.in bm Z;have p:bm≠j:=by rintro rfl;rw[v]at a;cases a
 have q:bm≠g:=by rintro rfl;rw[x]at a;cases a
 exact⟨To,N,by rw[aJ bm p q (by rw[y];simp)];exact y,hlen⟩
def dA (u:aS) (M:bH):bH :=
 if M.fin≠0\/200<=M.steps\/200<=M.said.length\/207<=M.objs.length then M
 else match M.au.getLast? with
  | none=>M
  | some f=>match ig u M.au.dropLast f M with
   | .ok a=>{a with steps:=a.steps+1}
   | .error k=>if k=0 then {M with fin:=3,steps:=M.steps+1}else {bU u k M with steps:=(bU u k M).steps+1}
theorem wE {u:aS} {M:bH} {fs:List bL} {f:bL} (a:M.au=fs++[f]) (b:¬(M.fin≠0\/200<=M.steps\/200<=M.said.length\/207<=M.objs.length)):dA u M=match ig u fs f M with
   | .ok M'=>{M' with steps:=M'.steps+1}
   | .error k=>if k=0 then {M with fin:=3,steps:=M.steps+1}else {bU u k M with steps:=(bU u k M).steps+1}:=by
 unfold dA;rw[if_neg b,a];simp
structure FW (u:aS) (M:bH):Prop where
 inv:DO u M
 gh:M.fin=0->M.au≠[]
 send:∀ f∈M.au,xW u f
 fault:∀ fs f k,M.au=fs++[f]->ig u fs f M=.error k->k=0\/0 < k/\k<=7
 cls:∀ k,0 < k->k<=7->(aK M.objs k).cls < u.aq.length
 steps:0<=M.steps/\M.steps<=200
 FX:∀ fs f M',M.au=fs++[f]->ig u fs f M=.ok M'->M'.steps=M.steps
theorem BG {h:Heap} {bm:Nat} {t:TypeId} {b a vs:Value} {M:bH} (c:h bm=some (.cells ([]++aE b a vs M++[]).toArray t (0,0))):dQ h bm 0 7=some (aE b a vs M):=by
 rw[bK c 7 0 (by simp[aE])];simp[aE]
def jv (d:Option Addr) (b:Nat) (c:Option Addr) (a:Nat) (e:Option Addr) (cs:Nat) (M:bH):List Value:=aE (.slice d M.objs.length b) (.slice c M.au.length a) (.slice e M.said.length cs) M
theorem eX.jv {h:Heap} {mc:List Value} {M:bH} {B:List Nat} (g:eX h mc M B):∃ d b c a e cs,mc=jv d b c a e cs M:=by
 obtain⟨t,s,u,o,p,q,rfl,i,j,m,rfl⟩:=g;obtain⟨d,b,rfl,_⟩:=i.form;obtain⟨c,a,rfl,_⟩:=j.form;obtain⟨e,cs,f,_⟩:=m.form;exact⟨d,b,c,a,e,cs,by subst f;simp[Go.Proofs.jv,aE]⟩
theorem sY (mc:List Value) (M:bH) (h:Heap) (o:qy h mc M) :
  bI prog 41 [.agg ⟨mc⟩] h λv h'=>∃ e c d a f cs B,v=.agg ⟨jv e c d a f cs M⟩/\eX h' (jv e c d a f cs M) M B/\Nd B/\(∀ b∈B,h b=none)/\h.le h' :=
 (zm mc M h o).mono λv h' ⟨m,p,B,g,own,nd,j⟩=>by
  obtain⟨e,c,d,a,f,cs,i⟩:=own.jv;subst i;exact⟨e,c,d,a,f,cs,B,g,own,nd,j,m⟩
theorem fo.made {h c d:Heap} {mc:List Value} {M:bH} {B:List Nat} {bm:Nat} {t:TypeId} (own:eX c mc M B) (nd:Nd B) (p:∀ b∈B,h b=none) (i:h.le c) (e:c bm=none) (j:c.le d) (q:d bm=some (.cells mc.toArray t (0,0))):fo h d bm [] [] M B:=by
 have u:bm ∉ B:=λa=>by
  obtain⟨o,m⟩:=own.in bm a;rw[e]at m;cases m
 refine⟨Heap.le_trans i j,⟨mc,t,by simpa using q,own.aJ (cD.of_le j _)⟩,?_,λb a=>?_⟩
 ·intro f;have:=nd f;by_cases g:bm=f
  ·subst g;simp[List.count_eq_zero.2 u]
  simp[g];exact this
 rcases List.mem_cons.1 a with rfl|a
 ·cases s:h b with
  | none=>rfl
  | some o=>rw[i b o s]at e;cases e
 exact p b a
theorem fo.OT {h c d e:Heap} {mc:List Value} {M:bH} {B:List Nat} {bm:Nat} {t:TypeId} {o:Obj} (own:eX d mc M B) (nd:Nd B) (g:∀ b∈B,c b=none) (j:h.le c) (w:c.le d) (q:c bm=some o) (m:h bm=none) (u:e bm=some (.cells mc.toArray t (0,0)))
  (aJ:∀ b,b≠bm->e b=d b):fo h e bm [] [] M B:=by
 have p:bm ∉ B:=λa=>by have:=g bm a;rw[q]at this;cases this
 refine⟨λb y a=>?_,⟨mc,t,by simpa using u,own.aJ λb s o x=>?_⟩,?_,λb a=>?_⟩
 ·have:b≠bm:=by rintro rfl;rw[m]at a;cases a
  rw[aJ b this];exact w _ _ (j _ _ a)
 ·have:b≠bm:=by rintro rfl;exact p s
  rw[aJ b this];exact x
 ·intro f;have:=nd f;by_cases i:bm=f
  ·subst i;simp[List.count_eq_zero.2 p]
  simp[i];exact this
 rcases List.mem_cons.1 a with rfl|a
 ·exact m
 cases v:h b with
 | none=>rfl
 | some o=>have:=g b a;rw[j _ _ v]at this;cases this
theorem DT {cs vs:List Value} (h:vs.length=cs.length):dU cs 0 vs=vs:=by
 have:=jN (pre:=[]) (x:=cs) (x':=vs) (post:=[]) (n:=0) rfl h;simpa using this
theorem fo.out {h0 h:Heap} {bm:Nat} {M:bH} {B:List Nat} (i:fo h0 h bm [] [] M B):∃ e c d a f cs,dQ h bm 0 7=some (jv e c d a f cs M)/\eX h (jv e c d a f cs M) M B/\Nd B/\∀ b∈B,h0 b=none:=by
 obtain⟨le,⟨p,t,j,own⟩,nd,g⟩:=i;obtain⟨e,c,d,a,f,cs,rfl⟩:=own.jv;exact⟨e,c,d,a,f,cs,BG j,own,nd.less λo=>by simp only[List.count_cons];omega,λb m=>g b (List.mem_cons_of_mem _ m)⟩
theorem BH (mc us:List Value) (u:aS) (M:bH) (h:Heap) (z:qy h mc M) (hu:cZ h us u) (hT:cC u) (hI:M.fin=0->FW u M) :
  bI prog 17 [.agg ⟨us⟩,.agg ⟨mc⟩] h λv h'=>h.le h'/\∃ Fx B,v=.agg ⟨Fx⟩/\eX h' Fx (dA u M) B/\Nd B/\∀ b∈B,h b=none:=by
 have qH:=z;have FY:=sY mc M h z;have oT:=hu;obtain⟨J,cc,ae,ad,rfl,hcs,kS,ko,hl2⟩:=hu.form;obtain⟨vo,vf,vs,rfl,s1,s2,ho,hf,hs⟩:=z;obtain⟨po,co,rfl,_,_⟩:=ho.len;obtain⟨pf,cf,rfl,_,_⟩:=hf.len;obtain⟨ps,cs,AU⟩:∃ J L,vs=.slice J M.said.length L:=by
  obtain⟨_,_,J,L,s,_⟩:=hs;exact⟨J,L,by simpa using s⟩
 subst AU;by_cases hg:M.fin≠0\/200<=M.steps\/200<=M.said.length\/207<=M.objs.length
 ·have p:dA u M=M:=by unfold dA;rw[if_pos hg]
  rw[p];refine bT aB func17 Rw Ol rfl ?_;conv=>whnf
  repeat' ((first|refine bZ ?_|refine bD ?_|refine cU ?_|refine cy ?_|apply aD<;>intro _|apply aU<;>intro _)<;>conv=>whnf)
  all_goals first
   | (exfalso;omega)
   | (
    refine aG FY (λv h1 a=>?_);refine a.elim λWH a=>a.elim λWI a=>a.elim λL8 a=>a.elim λTM a=>a.elim λTe a=>a.elim λNx a=>a.elim λB a=>?_;have c:=a.1;subst c;conv=>whnf
    exact⟨a.2.2.2.2,_,B,rfl,a.2.1,a.2.2.1,a.2.2.2.1⟩)
 have FL:M.fin=0:=by omega
 have e:=hI FL;refine bT aB func17 Rw Ol rfl ?_;conv=>whnf
 repeat' ((first|refine bZ ?_|refine bD ?_|refine cU ?_|refine cy ?_)<;>conv=>whnf)
 have T:∃ g f,M.au=g++[f]:=by
  rcases List.eq_nil_or_concat M.au with s|⟨gs,gl,s⟩
  ·exact absurd s (e.gh FL)
  exact⟨gs,gl,by simpa using s⟩
 refine T.elim λg T=>T.elim λf y=>?_;have p:=wE (u:=u) y hg;have OU:=λ(P:Heap) (d:Nat) (B:List Nat) (r:Except Int bH) (z:ig u g f M=r) (hM:fo h P d [] [] M B)=>DS h P d _ u g f M B r z hM oT y hT e.inv (e.send f (by rw[y];simp));have OV:=e.fault g f;have FZ:=e.FX g f;have OW:∀ F∈M.au,0<=F.aC/\F.aC < u.methods.length:=λF TN=>(e.inv.gh F TN).aC;have WJ:=e.inv.len;have KA:=e.inv.nf;have nu:=e.steps;generalize hdo:ig u g f M=r at p OU OV FZ;refine aG FY (λv h1 a=>?_);refine a.elim λWH a=>a.elim λWI a=>a.elim λL8 a=>a.elim λTM a=>a.elim λTe a=>a.elim λNx a=>a.elim λB a=>?_;have c:=a.1;subst c;have own:=a.2.1;have ndB:=a.2.2.1;have frB:=a.2.2.2.1;have l1:=a.2.2.2.2;conv=>whnf
 refine dn [.slice none 0 0,.slice none 0 0,.slice none 0 0,.int .i64 0,.int .i64 0,.bool false,.int .i64 0] rfl (λd P H e2 l2 g2=>?_);conv=>whnf
 refine vI g2 (jv WH WI L8 TM Te Nx M) Z rfl (λQ e3 g3=>?_);have l3:h1.le Q:=by
  intro b aa w;have pV:b≠d:=by rintro rfl;rw[H]at w;cases w
  rw[e3];simp only[Heap.set,pV,if_false];exact l2 b aa w
 have OK:fo h Q d [] [] M B:=fo.made own ndB frB l1 H l3 g3;conv=>whnf
 refine aG (OU Q d B r rfl OK) (λv R c=>?_);cases r with
 | ok m =>
  refine c.2.elim λB' WK=>?_;have V:=c.1;subst V;have hM4:=WK.1;have QC:=WK.2;have WL:=FZ m y rfl;have hints:=hM4.ints;obtain⟨ab,Nz,Y,Fl,I,_,_,_,W⟩:=hints;have q:=W {m with steps:=m.steps+1} rfl rfl rfl;have D:rd R d 3=some (.int .i64 m.steps):=bA I (i:=3) rfl rfl;conv=>whnf
  refine ld D ?_;conv=>whnf
  refine av ?_;conv=>whnf
  refine jd I (i:=3) (aE Nz Y Fl {m with steps:=m.steps+1}) rfl (by simp[aE]) (by rfl) (λh5 e5 g5=>?_);rw[<-e5]at q;obtain⟨WM,WN,WO,WQ,WR,WS,E,C,A,t⟩:=q.1.out;conv=>whnf
  refine dh E ?_;conv=>whnf
  rw[p];exact⟨q.1.le,_,B',rfl,C,A,t⟩
 | error k =>
  have V:=c.1;subst V;have l4:h.le R:=c.2.1;have o:=c.2.2;have hk7:=OV k y rfl;conv=>whnf
  refine aG (sY _ M R (qH.le l4)) (λv h5 a=>?_);refine a.elim λpo2 a=>a.elim λND a=>a.elim λpf2 a=>a.elim λTO a=>a.elim λps2 a=>a.elim λQH a=>a.elim λK a=>?_;have c:=a.1;subst c;have TP:=a.2.1;have NF:=a.2.2.1;have fr2:=a.2.2.2.1;have l5:=a.2.2.2.2;refine o.elim λws o=>o.elim λtb o=>?_;have tK:=o.1;have DI:=o.2;have EP:h d=none:=by
   cases hh:h d with
   | none=>rfl
   | some aa=>rw[l1 _ _ hh]at H;cases H
  conv=>whnf
  refine vI (l5 _ _ tK) (jv po2 ND pf2 TO ps2 QH M) (by rw[DI];exact Nat.le_refl 7) (DT (by rw[DI];rfl)) (λh6 e6 g6=>?_);have WT:fo h h6 d [] [] M K:=fo.OT TP NF fr2 l4 l5 tK EP g6 (λb w=>by rw[e6];simp only[Heap.set,w,if_false]);conv=>whnf
  apply aD<;>intro G;all_goals conv=>whnf
  ·subst G;obtain⟨ab,Nz,Y,Fl,I,_,_,_,W⟩:=WT.ints;have q:=(W {M with fin:=3} rfl rfl rfl).1;refine jd I (i:=4) (aE Nz Y Fl {M with fin:=3}) rfl (by simp[aE]) (by rfl) (λS e7 g7=>?_);rw[<-e7]at q;obtain⟨t',TQ,TR,Nt,x,_,_,_,X⟩:=q.ints;have j:=(X {M with fin:=3,steps:=M.steps+1} rfl rfl rfl).1;have D:rd S d 3=some (.int .i64 M.steps):=bA x (i:=3) rfl rfl;conv=>whnf
   refine ld D ?_;conv=>whnf
   refine av ?_;conv=>whnf
   refine jd x (i:=3) (aE TQ TR Nt {M with fin:=3,steps:=M.steps+1}) rfl (by simp[aE]) (by rfl) (λh8 N g8=>?_);rw[<-N]at j;obtain⟨WM,WN,WO,WQ,WR,WS,E,C,A,t⟩:=j.out;conv=>whnf
   refine dh E ?_;conv=>whnf
   rw[p];exact⟨j.le,_,K,rfl,C,A,t⟩
  have IP:0 < k/\k<=7:=hk7.resolve_left G;refine aG (qF h h6 d _ u M K k WT oT hT.1 O O O (e.cls k IP.1 IP.2) OW) (λv S c=>?_);refine c.elim λB7 c=>?_;have hM7:=c.1;obtain⟨t',TQ,TR,Nt,x,_,_,_,X⟩:=hM7.ints;have j:=(X {bU u k M with steps:=(bU u k M).steps+1} rfl rfl rfl).1;have aad:(bU u k M).steps=M.steps:=by unfold bU;split<;>rfl
  have D:rd S d 3=some (.int .i64 (bU u k M).steps):=bA x (i:=3) rfl rfl;conv=>whnf
  refine ld D ?_;conv=>whnf
  refine av ?_;conv=>whnf
  refine jd x (i:=3) (aE TQ TR Nt {bU u k M with steps:=(bU u k M).steps+1}) rfl (by simp[aE]) (by rfl) (λh8 N g8=>?_);rw[<-N]at j;obtain⟨WM,WN,WO,WQ,WR,WS,E,C,A,t⟩:=j.out;conv=>whnf
  refine dh E ?_;conv=>whnf
  have TS:dA u M = {bU u k M with steps:=(bU u k M).steps+1}:=p.trans (if_neg G);rw[TS];exact⟨j.le,_,B7,rfl,C,A,t⟩
theorem zA {cs:List dH} (ok:cn cs):∀(k:Nat) {a b c:Int},a.toNat < k->a < cs.length->up cs a b=true->up cs b c=true->up cs a c=true
 | 0,a,b,c,h,_,_,_=>by omega
 | k+1,a,b,c,h,hl,h1,h2=>by
  have d:=jc h1;rw[fR ok d hl]at h1 ⊢;by_cases e:a=b
  ·subst e;rw[fR ok d hl]at h2;exact h2
  have g:=ok.bO d hl;simp only[e,decide_false,Bool.false_or]at h1;by_cases f:a=c
  ·simp[f]
  simp only[f,decide_false,Bool.false_or];exact zA ok k (by have:=jc h1;omega) O h1 h2
theorem KB {cs:List dH} (ok:cn cs) {a b:Int} (d:a < cs.length) (h:up cs a b=true):b<=a:=by
 rcases Int.lt_or_le a b with c|c
 ·rw[Bb ok (a.toNat+1) O d c]at h;cases h
 exact c
theorem si {cs:List dH} (ok:cn cs):∀(k:Nat) {a b:Int},a.toNat < k->a < cs.length->up cs a b=true->0<=b
 | 0,a,b,h,_,_=>by omega
 | k+1,a,b,h,hl,h1=>by
  have c:=jc h1;rw[fR ok c hl]at h1;by_cases d:a=b
  ·omega
  have e:=ok.bO c hl;simp only[d,decide_false,Bool.false_or]at h1;exact si ok k (by have:=jc h1;omega) O h1
theorem CS {c s:Int}:∀(l:List cu) (k:Int),0<=k->gI c s l k = -1\/∃ i,∃ a:i < l.length,gI c s l k=k+i/\l[i].cls=c/\l[i].er=s
 | [],k,_=>.inl rfl
 | m::r,k,hk=>by
  rw[gI];split
  ·rename_i h;exact .inr ⟨0,Z,Z,h.1,h.2⟩
  rcases CS (c:=c) (s:=s) r (k+1) O with h|⟨i,a,b,d,e⟩
  ·exact .inl h
  exact .inr ⟨i+1,by simpa using a,by rw[b];omega,by simpa using d,by simpa using e⟩
theorem zB {u:aS} {c s:Int} (h:0<=gI c s u.methods 0):gI c s u.methods 0 < u.methods.length/\(aY u (gI c s u.methods 0)).cls=c/\(aY u (gI c s u.methods 0)).er=s:=by
 rcases CS (c:=c) (s:=s) u.methods 0 O with e|⟨i,f,e,b,d⟩
 ·omega
 have a:gI c s u.methods 0=(i:Int):=by omega
 rw[a,fm f rfl];exact⟨O,b,d⟩
theorem oB {u:aS} (ok:cn u.aq) {s:Int}:∀(k:Nat) {c:Int},c.toNat < k->c < u.aq.length->0<=find u c s->up u.aq c (aY u (find u c s)).cls=true/\(aY u (find u c s)).er=s/\find u c s < u.methods.length
 | 0,c,h,_,_=>by omega
 | k+1,c,h,hl,hf=>by
  rcases Int.lt_or_le c 0 with a|a
  ·rw[kW a]at hf;omega
  have i:=ok.bO a hl;by_cases g:0<=gI c s u.methods 0
  ·rw[qn a g];obtain⟨b,d,e⟩:=zB g;exact⟨by rw[d];exact qm ok a hl,e,b⟩
  rw[tI ok a hl O]at hf ⊢;rcases Int.lt_or_le (bC u.aq c) 0 with f|f
  ·rw[kW f]at hf;omega
  obtain⟨b,d,e⟩:=oB ok k (c:=bC u.aq c) O O hf;exact⟨by rw[fR ok a hl,b];simp,d,e⟩
theorem sj {u:aS} (g:cC u) {s a:Int} (d:a < u.aq.length) (e:0<=find u a s):∀(k:Nat) {c:Int},c.toNat < k->c < u.aq.length->up u.aq c a=true ->
  0<=find u c s/\(aY u (find u c s)).args=(aY u (find u a s)).args/\(aY u (find u c s)).out=(aY u (find u a s)).out
 | 0,c,h,_,_=>by omega
 | k+1,c,h,hl,CT=>by
  have ok:=g.1;have b:=jc CT;have G:=ok.bO b hl;have B:=CT;rw[fR ok b hl]at CT;by_cases m:c=a
  ·subst m;exact⟨e,rfl,rfl⟩
  simp only[m,decide_false,Bool.false_or]at CT;by_cases f:0<=gI c s u.methods 0
  ·rw[qn b f];obtain⟨D,x,y⟩:=zB f;obtain⟨t,C,H⟩:=oB ok (a.toNat+1) O d e;refine⟨f,?_⟩;generalize E:gI c s u.methods 0=i at *;generalize F:find u a s=j at *;have o:i.toNat < u.methods.length:=by omega
   have p:j.toNat < u.methods.length:=by omega
   have v:=fm (n:=i) o O;have w:=fm (n:=j) p O;by_cases A:i=j
   ·subst A;exact⟨rfl,rfl⟩
   have q:=g.2.2.2.2 i.toNat j.toNat o p O;rw[<-v,<-w]at q;have z:0<=(aY u j).cls:=si ok (a.toNat+1) O d t;have:=(q O z (by rw[y,C])).2 (by rw[x];exact zA ok (c.toNat+1) O hl B t);exact⟨this.2,this.1⟩
  rw[tI ok b hl O];exact sj g d e k (by have:=jc CT;omega) O CT
theorem cC.aY {u:aS} (a:cC u) {k:Int} (h:0<=k/\k < u.methods.length):nj u (aY u k):=a.2.2.2.1 _ (fB h)
theorem nx {u:aS} (ok:cn u.aq) {s c:Int} (a:c < u.aq.length) (b:0<=find u c s):0<=(aY u (find u c s)).cls :=
 si ok (c.toNat+1) O a (oB ok (c.toNat+1) O a b).1
theorem sk {m:cu}:(cj m).length=(if 0<=m.cls then 1 else 0)+m.args.length:=by
 unfold cj;split<;>simp<;>omega
theorem wF {u:aS} (b:cC u) {f:bL} (y:0<=f.aC/\f.aC < u.methods.length):xW u f:=by
 intro x J rest c B i z e A;have C:=(b.aY y).2.1.2.2.2.1 x B;obtain⟨I,a,h⟩:=x;simp only at i;subst i;have o:=(aL (p:=5) (q:=9) rfl).1 C;simp[br]at o;obtain⟨K,g,w,_,_⟩:=iz z;simp[cI]at g;have F:=g.1;obtain⟨d,m,E⟩:=sj b (s:=h) (a:=a) O O (c.toNat+1) O e A;obtain⟨G,H,D⟩:=oB b.1 (s:=h) (c.toNat+1) (c:=c) O e d;have j:=(b.aY ⟨d,D⟩).1;have t:=nx b.1 e d;have v:=j.2.2.2.2.2;rw[sk,if_pos t]at v;refine⟨d,?_,j.2.2.2.2.1⟩;rw[w,<-g.2];simp only[List.length_cons,List.length_replicate];rw[<-m];omega
def iR (n:Nat) (v:Vl):Prop:=(v.ref=true->0<=v.n/\v.n<=n)/\(v.ref=false->isWord v.n=true)
def CU (u:aS) (n:Nat) (o:Ob):Prop:=(∀ v∈o.bp,iR n v)/\(((o.cls = -1\/o.cls = -2)/\o.bp.length<=6)\/(0<=o.cls/\o.cls < u.aq.length/\o.bp.length=(cP u.aq o.cls).length))
def tC (u:aS) (n:Nat) (f:bL):Prop:=(0<=f.aC/\f.aC < u.methods.length)/\(0<=f.pc/\f.pc<=(aY u f.aC).code.length)/\(f.locals.length:Int)=(aY u f.aC).locals/\f.stack.length<=4/\(∀ v∈f.locals,iR n v)/\∀ v∈f.stack,iR n v
def uI (M:bH):Prop:=((M.fin=0\/M.fin=3)/\M.au≠[]/\M.out=cE)\/(M.fin=1/\M.au=[])\/(M.fin=2/\M.au=[]/\M.out.ref=true/\1<=M.out.n)
structure mE (u:aS) (M:bH):Prop where
 steps:0<=M.steps/\M.steps<=200
 len:7<=M.objs.length/\M.objs.length<=207
 nf:M.au.length<=4
 iS:M.said.length<=200
 out:iR M.objs.length M.out
 objs:∀ o∈M.objs,CU u M.objs.length o
 low:∀ k,0 < k->k<=7->(aK M.objs k).cls=1
 gh:∀ f∈M.au,tC u M.objs.length f
 said:∀ n∈M.said,isWord n=true
 fin:uI M
theorem iR.mono {n m:Nat} {v:Vl} (h:iR n v) (b:n<=m):iR m v:=⟨λa=>by have:=h.1 a;omega,h.2⟩
theorem CU.mono {u:aS} {n m:Nat} {o:Ob} (h:CU u n o) (a:n<=m):CU u m o:=⟨λv b=>(h.1 v b).mono a,h.2⟩
theorem tC.mono {u:aS} {n m:Nat} {f:bL} (h:tC u n f) (b:n<=m):tC u m f:=⟨h.1,h.2.1,h.2.2.1,h.2.2.2.1,λv a=>(h.2.2.2.2.1 v a).mono b,λv a=>(h.2.2.2.2.2 v a).mono b⟩
theorem mE.inv {u:aS} {M:bH} (h:mE u M):DO u M where
 objs o ho:=by
  rcases(h.objs o ho).2 with ⟨c,d⟩|⟨c,d,b⟩
  ·exact⟨O,λb=>O⟩
  exact⟨O,λ_=>b⟩
 len:=⟨h.len.1,by have:=h.len.2;omega⟩
 bp o ho v a:=((h.objs o ho).1 v a).1
 gh g hg:=by
  obtain⟨c,d,b,e,f,i⟩:=h.gh g hg;exact⟨c,d,b,e,λv a=>(f v a).1,λv a=>(i v a).1⟩
 nf:=h.nf
 said:=by have:=h.iS;omega
structure GW (u:aS) (objs:List Ob) (f:bL):Prop where
 len:7<=objs.length
 vK:∀ o∈objs,CU u objs.length o
 low:∀ k,0 < k->k<=7->(aK objs k).cls=1
 gh:tC u objs.length f
theorem qI {u:aS} {objs c:List Ob} {f f':bL} {v:Vl} (h:GW u objs f) (m:iR objs.length v) (a:cM objs f v=.ok (c,f')):c=objs/\GW u c f'/\f'.aC=f.aC/\f'.pc=f.pc/\f'.locals=f.locals/\f'.stack=f.stack++[v]:=by
 unfold cM at a;split at a
 ·simp only[Except.ok.injEq,Prod.mk.injEq]at a;obtain⟨rfl,rfl⟩:=a;obtain⟨d,e,g,o,i,j⟩:=h.gh;refine⟨rfl,⟨h.len,h.vK,h.low,d,e,g,by simp;omega,i,λw b=>?_⟩,rfl,rfl,rfl,rfl⟩;simp only[List.mem_append,List.mem_singleton]at b;rcases b with b|rfl
  ·exact j w b
  exact m
 cases a
theorem F0 {objs:List Ob} {o:Ob} {k:Int} (h:0 < k) (b:k<=objs.length):aK (objs++[o]) k=aK objs k:=by
 have a:(k-1).toNat < objs.length:=by omega
 unfold aK;simp only[List.getD_eq_getElem?_getD,List.getElem?_append_left a]
theorem ny {n:Nat} {k:Int} (h : -128<=k/\k<=127):iR n ⟨false,k⟩:=⟨λa=>(by cases a),λ_=>eA.2 h⟩
theorem DU (n:Nat) (t:Int):iR n (nothing t):=by
 unfold nothing iR;refine⟨λ_=>Z,λ_=>by show isWord 0=true;decide⟩
theorem Md {u:aS} {objs b:List Ob} {f f':bL} {k:Int} {types:List Int} (h:GW u objs f) (q:((k = -1\/k = -2)/\types.length<=6)\/(0<=k/\k < u.aq.length/\types.length=(cP u.aq k).length))
  (d:nq k types objs f=.ok (b,f')):b=objs++[⟨k,types.map nothing⟩]/\GW u b f'/\f'.aC=f.aC/\f'.pc=f.pc:=by
 unfold nq at d;have p:GW u (objs++[⟨k,types.map nothing⟩]) f:=by
  refine⟨by have:=h.len;simp;omega,λv a=>?_,λt c o=>by rw[F0 c (by have:=h.len;omega)];exact h.low t c o,h.gh.mono Z⟩;simp only[List.mem_append,List.mem_singleton]at a;rcases a with a|rfl
  ·exact(h.vK v a).mono Z
  refine⟨λx e=>?_,by simpa using q⟩;simp only[List.mem_map]at e;obtain⟨w,_,rfl⟩:=e;exact DU _ _
 obtain⟨g,i,j,m,_⟩:=qI p ⟨λ_=>by simp;omega,λs=>by cases s⟩ d;exact⟨g,i,j,m⟩
theorem F1 {objs:List Ob} {n:Int} (h:0 < n) (b:n<=objs.length):∃ a:(n-1).toNat < objs.length,aK objs n=objs[(n-1).toNat] :=
 ⟨O,qB O O⟩
theorem fU {objs:List Ob} {n:Int} (h:0 < n) (b:n<=objs.length):aK objs n∈objs:=by
 obtain⟨a,e⟩:=F1 h b;rw[e];exact List.getElem_mem a
theorem F2 {objs:List Ob} {n k:Int} {o:Ob} (h:0 < n) (c:n<=objs.length) (b:0 < k):aK (objs.set (n-1).toNat o) k=if k=n then o else aK objs k:=by
 unfold aK;simp only[List.getD_eq_getElem?_getD,List.getElem?_set];by_cases a:k=n
 ·subst a;rw[if_pos rfl,if_pos O,if_pos rfl];rfl
 rw[if_neg O,if_neg a]
theorem KC {u:aS} {objs:List Ob} {f:bL} {n i:Int} {v:Vl} (h:GW u objs f) (m:0 < n) (j:n<=objs.length) (p:iR objs.length v):GW u (fA objs n (putAt (aK objs n).bp i v)) f:=by
 have c:(fA objs n (putAt (aK objs n).bp i v)).length=objs.length:=by simp[fA]
 have g:=h.vK _ (fU m j);refine⟨by rw[c];exact h.len,λq a=>?_,λk b e=>?_,by rw[c];exact h.gh⟩
 ·rw[c];unfold fA at a;rcases List.mem_or_eq_of_mem_set a with a|rfl
  ·exact h.vK q a
  refine⟨λw d=>?_,by simpa [putAt]using g.2⟩;rcases List.mem_or_eq_of_mem_set d with d|rfl
  ·exact g.1 w d
  exact p
 unfold fA;rw[F2 m j b];split
 ·rename_i o;subst o;exact h.low k b e
 exact h.low k b e
theorem iA {objs:List Ob} {n:Int} {a:Bool} {o:Ob} (h:dJ objs n a=.ok o):(0 < n->a=true)/\n≠0/\o=aK objs n:=by
 unfold dJ at h;split at h
 ·cases h
 rename_i b;split at h
 ·cases h
 rename_i c;simp only[Except.ok.injEq]at h;refine⟨λd=>?_,c,h.symm⟩;cases a with
 | true=>rfl
 | false=>exact absurd ⟨d,rfl⟩ b
theorem zC {objs:List Ob} {x:Vl} {k n:Int} {o:Ob} (h:mz objs x k n=.ok o):(0 < x.n->(aK objs x.n).cls=mw k)/\x.n≠0/\o=aK objs x.n/\0<=n/\n < o.bp.length:=by
 unfold mz at h;split at h
 ·cases h
 rename_i f c;obtain⟨a,b,rfl⟩:=iA c;split at h
 ·rename_i d;simp only[Except.ok.injEq]at h;subst h;exact⟨λe=>by simpa using a e,b,rfl,d⟩
 cases h
theorem pL {n:Nat} {l:List Vl} {i:Nat} (h:∀ v∈l,iR n v):iR n (l.getD i cE):=by
 rw[List.getD_eq_getElem?_getD];cases a:l[i]? with
 | none=>exact ny (by decide)
 | some v=>exact h v (List.mem_of_getElem? a)
def qJ (u:aS) (x:dc):Prop:=(x.kind=12\/x.kind=17\/x.kind=18\/x.kind=19->0<=x.a/\x.a < u.aq.length)/\(x.kind=17\/x.kind=18->0<=x.b/\x.b < (cP u.aq x.a).length)
theorem DV {u:aS} {x:dc} {t:List Vl} {objs s:List Ob} {f f':bL} (h:GW u objs f) (S:mP u x t objs.length) (C:∀ v∈t,iR objs.length v) (D:qJ u x)
  (a:bt u x t objs f=.ok (s,f')):GW u s f'/\(s.length=objs.length\/s.length=objs.length+1)/\f'.aC=f.aC/\f'.pc=f.pc:=by
 obtain⟨j,W,X⟩:=x;obtain⟨t13,t14,t15,t16,t17,t18,t19,T⟩:=S;simp only[qJ]at t13 t14 t15 t16 t17 t18 t19 D;have uJ:∀ v∈t,v.ref=true->v.n≠0->0 < v.n/\v.n<=objs.length:=λv B c V=>by have:=T v B c;omega
 have o:∀ {v:Vl} {f1:bL} {e:List Ob},iR objs.length v->cM objs f v=.ok (e,f1)->GW u e f1/\(e.length=objs.length\/e.length=objs.length+1)/\f1.aC=f.aC/\f1.pc=f.pc:=by
  intro v f1 e B a;obtain⟨rfl,y,z,A,_⟩:=qI h B a;exact⟨y,.inl rfl,z,A⟩
 have K:∀ {k:Int} {types:List Int} {f1:bL} {e:List Ob},((k = -1\/k = -2)/\types.length<=6)\/(0<=k/\k < u.aq.length/\types.length=(cP u.aq k).length)->nq k types objs f=.ok (e,f1)->GW u e f1/\(e.length=objs.length\/e.length=objs.length+1)/\f1.aC=f.aC/\f1.pc=f.pc:=by
  intro k types f1 e R a;obtain⟨rfl,y,z,A⟩:=Md h R a;exact⟨y,.inr Z,z,A⟩
 simp only[bt]at a;by_cases p:j=12
 ·rw[if_pos p]at a;exact K (.inr ⟨(D.1 (by simp[p])).1,(D.1 (by simp[p])).2,rfl⟩) a
 rw[if_neg p]at a;by_cases L:j=13
 ·rw[if_pos L]at a;split at a
  ·exact K (.inl ⟨by unfold mw;split<;>simp,by rw[List.length_replicate];omega⟩) a
  cases a
 rw[if_neg L]at a;by_cases E:j=14
 ·rw[if_pos E]at a;obtain⟨d,rfl,c⟩:=t14 E;split at a
  ·cases a
  rename_i q i;obtain⟨m,g,rfl⟩:=iA i;have b:=uJ d Z c g;have P:=h.vK _ (fU b.1 b.2);have Q:=m b.1;simp only[List.getD_cons_zero,decide_eq_true_eq]at Q;refine o ⟨λc=>(by cases c),λ_=>eA.2 ?_⟩ a;simp only[List.getD_cons_zero];rcases P.2 with ⟨_,N⟩|⟨N,_,_⟩
  ·omega
  omega
 rw[if_neg E]at a;by_cases F:j=15
 ·rw[if_pos F]at a;obtain⟨d,w,rfl,c⟩:=t15 F;split at a
  ·cases a
  rename_i q i;obtain⟨m,g,rfl,_⟩:=zC i;have b:=uJ d Z c g;exact o (pL (h.vK _ (fU b.1 b.2)).1) a
 rw[if_neg F]at a;by_cases G:j=16
 ·rw[if_pos G]at a;obtain⟨d,w,M,rfl,c⟩:=t16 G;split at a
  ·cases a
  rename_i q i;obtain⟨m,g,rfl,_⟩:=zC i;have b:=uJ d Z c g;simp only[Except.ok.injEq,Prod.mk.injEq]at a;obtain⟨rfl,rfl⟩:=a;exact⟨KC h b.1 b.2 (C M Z),.inl (by simp[fA]),rfl,rfl⟩
 rw[if_neg G]at a;by_cases H:j=17
 ·rw[if_pos H]at a;obtain⟨d,rfl,c⟩:=t17 H;split at a
  ·cases a
  rename_i q i;obtain⟨m,g,rfl⟩:=iA i;have b:=uJ d Z c g;exact o (pL (h.vK _ (fU b.1 b.2)).1) a
 rw[if_neg H]at a;by_cases I:j=18
 ·rw[if_pos I]at a;obtain⟨d,w,rfl,c⟩:=t18 I;split at a
  ·cases a
  rename_i q i;obtain⟨m,g,rfl⟩:=iA i;have b:=uJ d Z c g;simp only[Except.ok.injEq,Prod.mk.injEq]at a;obtain⟨rfl,rfl⟩:=a;exact⟨KC h b.1 b.2 (C w Z),.inl (by simp[fA]),rfl,rfl⟩
 rw[if_neg I]at a;by_cases J:j=19
 ·rw[if_pos J]at a;obtain⟨d,rfl,c⟩:=t19 J;split at a
  ·cases a
  exact o (C d Z) a
 rw[if_neg J]at a;simp only[Except.ok.injEq,Prod.mk.injEq]at a;obtain⟨rfl,rfl⟩:=a;exact⟨h,.inl rfl,rfl,rfl⟩
theorem Me {u:aS} {x:dc} {cA e rest:List Vl} {n:Nat} (g:dz u x cA=some (e,rest)) (h:∀ v∈cA,iR n v):mP u x e n:=by
 obtain⟨p,d,c,a,rfl⟩:=iz g;obtain⟨o,j,m⟩:=x;refine⟨λb=>?_,λb=>?_,λb=>?_,λb=>?_,λb=>?_,λb=>?_,λb=>?_,λv i f=>(h v (by simp[i])).1 f⟩;all_goals
  simp only at b;subst b;simp[cI]at d;subst d
 ·exact eK c
 ·obtain⟨v,rfl⟩:=eK c;exact⟨v,rfl,by simpa [gA]using a⟩
 ·obtain⟨v,w,rfl⟩:=pI c;exact⟨v,w,rfl,by simp[gA]at a;exact a.1⟩
 ·obtain⟨v,w,z,rfl⟩:=zv c;exact⟨v,w,z,rfl,by simp[gA]at a;exact a.1⟩
 ·obtain⟨v,rfl⟩:=eK c;exact⟨v,rfl,by simpa [gA]using a⟩
 ·obtain⟨v,w,rfl⟩:=pI c;exact⟨v,w,rfl,by simp[gA]at a;exact a⟩
 obtain⟨v,rfl⟩:=eK c;exact⟨v,rfl,by simpa [gA]using a⟩
theorem GW.loc {u:aS} {objs:List Ob} {f:bL} (h:GW u objs f) (i:Nat) {v:Vl} (m:iR objs.length v):GW u objs {f with locals:=f.locals.set i v}:=by
 obtain⟨b,c,d,e,g,j⟩:=h.gh;refine⟨h.len,h.vK,h.low,b,c,by simpa using d,e,λw a=>?_,j⟩;rcases List.mem_or_eq_of_mem_set a with a|rfl
 ·exact g w a
 exact m
theorem oD {objs:List Ob} {f:bL} {a:List Int} {v:Vl} {r:List Ob × bL × List Int × Bool} (h:dV objs f a v=.ok r):∃ o g,cM objs f v=.ok (o,g)/\r=(o,g,a,false):=by
 unfold dV at h;split at h
 ·rename_i o g b;simp only[Except.ok.injEq]at h;exact⟨o,g,b,h.symm⟩
 cases h
theorem IQ {c a b:Int} : -128<=(fJ c a b).1/\(fJ c a b).1<=127:=by
 unfold fJ;have:=mO (a+b);have:=mO (a-b);have:=mO (a*b);have:=mO (a.tdiv b);repeat' split
 all_goals simp only
 all_goals omega
theorem ej.sn {u:aS} {m:cu} {x:dc} (a:ej u m x):qJ u x:=by
 obtain⟨e,c,d⟩:=x;refine⟨λb=>?_,λb=>?_⟩
 ·simp only at b;rcases b with rfl|rfl|rfl|rfl
  ·have:=(aL (p:=5) (q:=0) rfl).1 a;simp[br]at this;exact this.1
  ·have:=(aL (p:=5) (q:=8) rfl).1 a;simp[br]at this;exact this.1
  ·have:=(aL (p:=5) (q:=8) rfl).1 a;simp[br]at this;exact this.1
  have:=(aL (p:=5) (q:=0) rfl).1 a;simp[br]at this;exact this.1
 simp only at b;rcases b with rfl|rfl
 ·have:=(aL (p:=5) (q:=8) rfl).1 a;simp[br]at this;exact this.2
 have:=(aL (p:=5) (q:=8) rfl).1 a;simp[br]at this;exact this.2
theorem Mf {u:aS} {m:cu} {x:dc} {E:List Vl} {objs e:List Ob} {f g:bL} {i j:List Int} {t:Bool} (h:GW u objs f) (ht:mP u x E objs.length) (C:∀ v∈E,iR objs.length v) (d:ej u m x)
  (QI:x.kind=24->∃ a,E=[a]/\a.ref=false)
  (b:eF u x E objs f i=.ok (e,g,j,t)):GW u e g/\(e.length=objs.length\/e.length=objs.length+1)/\g.aC=f.aC/\g.pc=f.pc/\(j=i\/∃ w,isWord w=true/\j=i++[w])/\(t=true->8<=x.kind/\x.kind<=11):=by
 have QJ:=d.sn;obtain⟨c,xa,xb⟩:=x;have D:∀ {v:Vl},iR objs.length v->dV objs f i v=.ok (e,g,j,t)->GW u e g/\(e.length=objs.length\/e.length=objs.length+1)/\g.aC=f.aC/\g.pc=f.pc/\(j=i\/∃ w,isWord w=true/\j=i++[w])/\(t=true->8<=c/\c<=11):=by
  intro v hv b;obtain⟨W,J,A,o⟩:=oD b;simp only[Prod.mk.injEq]at o;obtain⟨rfl,rfl,rfl,rfl⟩:=o;obtain⟨rfl,s,y,z,_⟩:=qI h hv A;exact⟨s,.inl rfl,y,z,.inl rfl,λd=>by cases d⟩
 have B:∀ {F:Bool},(F=true->8<=c/\c<=11)->(Except.ok (objs,f,i,F):HW)=.ok (e,g,j,t)->GW u e g/\(e.length=objs.length\/e.length=objs.length+1)/\g.aC=f.aC/\g.pc=f.pc/\(j=i\/∃ w,isWord w=true/\j=i++[w])/\(t=true->8<=c/\c<=11):=by
  intro F hb o;simp only[Except.ok.injEq,Prod.mk.injEq]at o;obtain⟨rfl,rfl,rfl,rfl⟩:=o;exact⟨h,.inl rfl,rfl,rfl,.inl rfl,hb⟩
 simp only[eF]at b;by_cases H:c=1
 ·rw[if_pos H]at b;subst H;have:=(aL (p:=1) (q:=0) rfl).1 d;simp[br]at this;exact D (ny (eA.1 this.1)) b
 rw[if_neg H]at b;by_cases M:c=2
 ·rw[if_pos M]at b;exact D ⟨λ_=>Z,λG=>by cases G⟩ b
 rw[if_neg M]at b;by_cases N:c=3
 ·rw[if_pos N]at b;exact D (pL h.gh.2.2.2.2.1) b
 rw[if_neg N]at b;by_cases P:c=4
 ·rw[if_pos P]at b;simp only[Except.ok.injEq,Prod.mk.injEq]at b;obtain⟨rfl,rfl,rfl,rfl⟩:=b;exact⟨h.loc _ (pL C),.inl rfl,rfl,rfl,.inl rfl,λd=>by cases d⟩
 rw[if_neg P]at b;by_cases Q:c=5
 ·rw[if_pos Q]at b;exact B (λd=>by cases d) b
 rw[if_neg Q]at b;by_cases R:c=6
 ·rw[if_pos R]at b;split at b
  ·rename_i W J A;obtain⟨rfl,s,y,z,_⟩:=qI h (pL C) A;obtain⟨o2,g2,h2,o⟩:=oD b;simp only[Prod.mk.injEq]at o;obtain⟨rfl,rfl,rfl,rfl⟩:=o;obtain⟨rfl,s,Y,e4',_⟩:=qI s (pL C) h2;exact⟨s,.inl rfl,by rw[Y,y],by rw[e4',z],.inl rfl,λd=>by cases d⟩
  cases b
 rw[if_neg R]at b;by_cases S:c=7
 ·rw[if_pos S]at b;split at b
  ·exact D (ny IQ) b
  cases b
 rw[if_neg S]at b;by_cases T:c=8
 ·rw[if_pos T]at b;exact B (λ_=>O) b
 rw[if_neg T]at b;by_cases V:c=9
 ·rw[if_pos V]at b;exact B (λ_=>O) b
 rw[if_neg V]at b;by_cases K:c=10
 ·rw[if_pos K]at b;exact B (λ_=>O) b
 rw[if_neg K]at b;by_cases L:c=11
 ·rw[if_pos L]at b;exact B (λ_=>O) b
 rw[if_neg L]at b;by_cases I:c=24
 ·rw[if_pos I]at b;obtain⟨a,rfl,G⟩:=QI I;simp only[Except.ok.injEq,Prod.mk.injEq]at b;obtain⟨rfl,rfl,rfl,rfl⟩:=b;exact⟨h,.inl rfl,rfl,rfl,.inr ⟨a.n,(C a Z).2 G,rfl⟩,λd=>by cases d⟩
 rw[if_neg I]at b;split at b
 ·rename_i W J A;simp only[Except.ok.injEq,Prod.mk.injEq]at b;obtain⟨rfl,rfl,rfl,rfl⟩:=b;obtain⟨X,s,y,z⟩:=DV h ht C QJ A;exact⟨X,s,y,z,.inl rfl,λd=>by cases d⟩
 cases b
theorem wG {u:aS} {c pc:Int}:∀ {l:List kg} {k:kg},jk u c pc l=some k->k∈l/\(k.lo<=pc/\pc < k.hi)/\up u.aq c k.cls=true
 | [],_,h=>by cases h
 | m::r,k,h=>by
  rw[jk]at h;split at h
  ·rename_i a;simp only[Option.some.injEq]at h;subst h;exact⟨Z,a.1,a.2⟩
  obtain⟨b,d⟩:=wG h;exact⟨by simp[b],d⟩
def tL (u:aS) (s:Bool) (g k:bL):Prop:=(g.pc < (aY u g.aC).code.length\/s=false/\∀ x∈(aY u k.aC).code,x.kind≠22) /\
 (s=true->(((aY u g.aC).code.getD g.pc.toNat dj).kind=20/\((aY u g.aC).code.getD g.pc.toNat dj).a=k.aC) \/
  (((aY u g.aC).code.getD g.pc.toNat dj).kind=21/\0<=(aY u k.aC).cls/\(aY u k.aC).er=((aY u g.aC).code.getD g.pc.toNat dj).b/\0<=find u ((aY u g.aC).code.getD g.pc.toNat dj).a ((aY u g.aC).code.getD g.pc.toNat dj).b))
def iq (u:aS) (l:List bL) (s:Bool:=true):Prop:=∀ a g k b,l=a++g::k::b->tL u s g k
theorem iq.pre {u:aS} {s:Bool} {a b:List bL} (h:iq u (a++b) s):iq u a s:=λc g k d e=>h c g k (d++b) (by rw[e];simp)
theorem iq.last {u:aS} {s:Bool} {fs:List bL} {f f':bL} (h:iq u (fs++[f]) s) (i:f'.aC=f.aC):iq u (fs++[f']) s:=by
 intro a g k j e;rcases List.eq_nil_or_concat j with rfl|⟨d,z,rfl⟩
 ·have b:fs++[f']=(a++[g])++[k]:=by rw[e];simp
  obtain⟨rfl,c⟩:=List.append_inj' b rfl;simp only[List.cons.injEq,and_true]at c;subst c;have:=h a g f [] Z;unfold tL at this ⊢;rw[i];exact this
 have b:fs++[f']=(a++g::k::d)++[z]:=by rw[e];simp
 obtain⟨rfl,c⟩:=List.append_inj' b rfl;exact h a g k (d++[f]) Z
theorem iq.push {u:aS} {s:Bool} {fs:List bL} {f k:bL} (h:iq u (fs++[f]) s) (o:tL u s f k):iq u (fs++[f]++[k]) s:=by
 intro c g d p e;rcases List.eq_nil_or_concat p with rfl|⟨m,z,rfl⟩
 ·have a:fs++[f]++[k]=(c++[g])++[d]:=by rw[e];simp
  obtain⟨b,i⟩:=List.append_inj' a rfl;obtain⟨_,j⟩:=List.append_inj' b rfl;simp only[List.cons.injEq,and_true]at i j;subst i j;exact o
 have a:fs++[f]++[k]=(c++g::d::m)++[z]:=by rw[e];simp
 obtain⟨b,_⟩:=List.append_inj' a rfl;exact h c g d m b
theorem nB {u:aS} {c n:Int}:∀ {l a:List bL},nr u c n l=some a->∃ b f r k,l=b++f::r/\k∈(aY u f.aC).catches/\a = {f with pc:=k.to,stack:=[⟨true,n⟩]}::r
 | [],_,h=>by cases h
 | f::r,a,h=>by
  rw[nr]at h;split at h
  ·rename_i t i;simp only[Option.some.injEq]at h;exact⟨[],f,r,t,rfl,(wG i).1,h.symm⟩
  obtain⟨b,g,j,k,rfl,d,e⟩:=nB h;exact⟨f::b,g,j,k,rfl,d,e⟩
theorem F4 {u:aS} (z:cC u) {c n:Int} {k:Nat} (w:0<=n/\n<=k) {l a:List bL} (h:nr u c n l=some a) (e:∀ f∈l,tC u k f) (s:Bool:=true):a≠[]/\a.length<=l.length/\(∀ f∈a,tC u k f)/\(iq u l.reverse s->iq u a.reverse s):=by
 obtain⟨j,f,r,t,rfl,y,rfl⟩:=nB h;refine⟨Z,Z,λo b=>?_,λg=>?_⟩
 ·rcases List.mem_cons.1 b with rfl|b
  ·obtain⟨d,A,p,B,q,C⟩:=e f Z;have v:=(z.aY d).2.2.2 t y;have:=v.1;refine⟨d,⟨by show 0<=t.to;omega,by show t.to<=((aY u f.aC).code.length:Int);omega⟩,p,Z,q,λD i=>?_⟩;simp only[List.mem_singleton]at i;subst i;exact⟨λ_=>w,λx=>by cases x⟩
  exact e o (by simp[b])
 have m:(j++f::r).reverse=(r.reverse++[f])++j.reverse:=by simp
 rw[m]at g;have:=g.pre.last (f':={f with pc:=t.to,stack:=[⟨true,n⟩]}) rfl;simpa using this
theorem zD {u:aS} (q:cC u) {M:bH} (h:mE u M) (i:M.fin=0) {n:Int} (m:0 < n/\n<=M.objs.length) (s:Bool:=true):mE u (bU u n M)/\(iq u M.au s->iq u (bU u n M).au s):=by
 have o:M.out=cE:=by
  rcases h.fin with a|a|a
  ·exact a.2.2
  ·omega
  omega
 unfold bU;split
 ·rename_i l j;obtain⟨a,c,d,g⟩:=F4 q (k:=M.objs.length) O j (λf b=>h.gh f (by simpa using b)) s;refine⟨⟨h.steps,h.len,?_,h.iS,h.out,h.objs,h.low,λf b=>d f (by simpa using b),h.said,.inl ⟨.inl i,by simpa using a,o⟩⟩,by simpa using g⟩;have:=h.nf;simp only[List.length_reverse]at c ⊢;omega
 refine⟨⟨h.steps,h.len,Z,h.iS,⟨λ_=>⟨by show 0<=n;omega,m.2⟩,λp=>by cases p⟩,h.objs,h.low,λf b=>(by cases b),h.said,.inr (.inr ⟨rfl,rfl,rfl,by show 1<=n;omega⟩)⟩,λ_ v t k w e=>?_⟩;have:=congrArg List.length e;simp at this
theorem CV {u:aS} {M M':bH} {to:Int} {c:List Vl} (h:mE u M) (j:M.fin=0) (p:0<=to/\to < u.methods.length) (w:(c.length:Int)<=(aY u to).locals) (q:∀ v∈c,iR M.objs.length v) {fs:List bL} {f:bL} (m:M.au=fs++[f]) {s:Bool} (g:iq u M.au s) (i:tL u s f (eY u to c)) (b:eZ u to c M=.ok M'):mE u M'/\iq u M'.au s/\M'.steps=M.steps:=by
 have o:M.au≠[]/\M.out=cE:=by
  rcases h.fin with e|e|e
  ·exact e.2
  ·omega
  omega
 unfold eZ at b;split at b
 ·cases b
 rename_i t;simp only[Except.ok.injEq]at b;subst b;refine⟨⟨h.steps,h.len,by simp;omega,h.iS,h.out,h.objs,h.low,λf d=>?_,h.said,.inl ⟨.inl j,Z,o.2⟩⟩,?_,rfl⟩;rotate_left
 ·show iq u (M.au++[eY u to c]) s;rw[m]at g ⊢;exact g.push i
 simp only[List.mem_append,List.mem_singleton]at d;rcases d with d|rfl
 ·exact h.gh f d
 refine⟨p,⟨by simp[eY],by simp[eY]⟩,?_,by simp[eY],λv a=>?_,λv a=>by simp[eY]at a⟩
 ·simp only[eY,List.length_append,List.length_replicate];omega
 simp only[eY,List.mem_append]at a;rcases a with a|a
 ·exact q v a
 rw[List.eq_of_mem_replicate a];exact ny (by decide)
theorem OX {u:aS} {s:Bool} (w:cC u) {M M':bH} {fs:List bL} {f:bL} (h:mE u M) (y:M.fin=0) (x:M.au=fs++[f]) (hs:M.said.length < 200) (ho:M.objs.length < 207) (z:iq u M.au s) (a:ig u fs f M=.ok M'):mE u M'/\iq u M'.au s/\M'.steps=M.steps:=by
 have FQ:f∈M.au:=by rw[x];simp
 have b:=h.gh f FQ;have WU:=w.aY b.1;have mX:M.out=cE:=by
  rcases h.fin with e|e|e
  ·exact e.2.2
  ·omega
  omega
 unfold ig at a;simp only at a;split at a
 ·cases a
 rename_i NG;have lu:f.pc.toNat < (aY u f.aC).code.length:=by have:=b.2.1.1;omega
 have P:(aY u f.aC).code[f.pc.toNat]∈(aY u f.aC).code:=List.getElem_mem _;have zx:(aY u f.aC).code.getD f.pc.toNat dj=(aY u f.aC).code[f.pc.toNat]:=by simp[lu]
 have N:=WU.2.1.2.2.2.1 _ P;rw[zx]at a;generalize hxe:(aY u f.aC).code[f.pc.toNat]=Q at P N a;split at a
 ·cases a
 rename_i D rest ht;have nu:=iz ht;obtain⟨ws,j,L,F,TT⟩:=nu;have FR:∀ v∈rest,iR M.objs.length v:=λv B=>b.2.2.2.2.2 v (by rw[TT];simp[B]);have A:∀ v∈D,iR M.objs.length v:=λv B=>b.2.2.2.2.2 v (by rw[TT];simp[B]);have KD:rest.length<=4:=by have:=b.2.2.2.1;rw[TT]at this;simp at this;omega
 have QK:tC u M.objs.length {f with stack:=rest}:=⟨b.1,b.2.1,b.2.2.1,KD,b.2.2.2.2.1,FR⟩
 have hG1:GW u M.objs {f with stack:=rest}:=⟨h.len.1,h.objs,h.low,QK⟩
 have J:∀ g∈fs,tC u M.objs.length g:=λg i=>h.gh g (by rw[x];simp[i]);have Ku:fs.length+1<=4:=by have:=h.nf;rw[x]at this;simpa using this
 have X:mE u {M with au:=fs++[{f with stack:=rest}]}:=⟨h.steps,h.len,by simpa using Ku,h.iS,h.out,h.objs,h.low,λg i=>by
  simp only[List.mem_append,List.mem_singleton]at i;rcases i with i|rfl
  ·exact J g i
  exact QK,h.said,.inl ⟨.inl y,Z,mX⟩⟩
 have hT:=Me ht b.2.2.2.2.2;rw[x]at z;have Mg:iq u (fs++[{f with stack:=rest}]) s:=z.last rfl;have WV:(aY u f.aC).code.getD f.pc.toNat dj=Q:=by rw[zx];exact hxe
 split at a
 ·rename_i d;obtain⟨m,o,t⟩:=Q;simp only[eN]at a d;by_cases IS:m=20
  ·rw[if_pos IS]at a;subst IS;have:=(aL (p:=7) (q:=0) rfl).1 N;simp[br]at this;have I:=this.1.1;have HZ:=(w.aY I).1;have Bz:=HZ.2.2.2.2.2;rw[sk,if_neg O]at Bz;simp[cI]at j;subst j;have oL:(D.length:Int)<=(aY u o).locals:=by rw[L];simp;omega
   have vS:((aY u f.aC).code.getD f.pc.toNat dj).kind=20/\((aY u f.aC).code.getD f.pc.toNat dj).a=o:=by rw[WV];exact⟨rfl,rfl⟩
   have lA:=CV X y I oL A rfl Mg ⟨.inl (by show f.pc < ((aY u f.aC).code.length:Int);omega),λ_=>.inl vS⟩ a;exact lA
  rw[if_neg IS]at a;by_cases Mh:m=21
  ·rw[if_pos Mh]at a;subst Mh;split at a
   ·cases a
   rename_i ad e;obtain⟨R,S,rfl⟩:=iA e;simp[cI]at j;have ko:D.length=(aY u (find u o t)).args.length+1:=by rw[L,<-j.2];simp
   obtain⟨v,r,rfl⟩:∃ v r,D=v::r:=by
    cases D with
    | nil=>simp at ko
    | cons v r=>exact⟨v,r,rfl⟩
   have hr:v.ref=true:=by rw[<-j.2]at F;simp[gA]at F;exact F.1
   simp only[List.getD_cons_zero]at R S a;have Y:=(A v Z).1 hr;have CT:=R O;have hO:=h.objs _ (fU (objs:=M.objs) (n:=v.n) O Y.2);have rG:(aK M.objs v.n).cls < u.aq.length:=by
    rcases hO.2 with ⟨H,_⟩|⟨_,H,_⟩
    ·have:=w.1.1;omega
    exact H
   have K:=wF w b.1 ⟨21,o,t⟩ (v::r) rest _ P rfl ht rG CT;have hfi:=oB w.1 (s:=t) ((aK M.objs v.n).cls.toNat+1) (c:=(aK M.objs v.n).cls) O rG K.1;have vS:((aY u f.aC).code.getD f.pc.toNat dj).kind=21/\0<=(aY u (find u (aK M.objs v.n).cls t)).cls/\(aY u (find u (aK M.objs v.n).cls t)).er=((aY u f.aC).code.getD f.pc.toNat dj).b/\0<=find u ((aY u f.aC).code.getD f.pc.toNat dj).a ((aY u f.aC).code.getD f.pc.toNat dj).b:=by
    rw[WV];exact⟨rfl,nx w.1 rG K.1,hfi.2.1,j.1⟩
   have lA:=CV X y ⟨K.1,(gK u _ _).2⟩ K.2.1 A rfl Mg ⟨.inl (by show f.pc < ((aY u f.aC).code.length:Int);omega),λ_=>.inr vS⟩ a;exact lA
  rw[if_neg Mh]at a;by_cases TU:m=22
  ·rw[if_pos TU]at a;subst TU;have B:iR M.objs.length (D.getD 0 cE):=pL A;rcases List.eq_nil_or_concat fs with rfl|⟨gs,g,rfl⟩
   ·rw[wD]at a;simp only[Except.ok.injEq]at a;subst a;exact⟨⟨h.steps,h.len,Z,h.iS,B,h.objs,h.low,λf x=>(by cases x),h.said,.inr (.inl ⟨rfl,rfl⟩)⟩,λgs g k hs ab=>(by have:=congrArg List.length ab;simp at this),rfl⟩
   rw[List.concat_eq_append,oy]at a;split at a
   ·rename_i h4;simp only[Except.ok.injEq]at a;subst a;have i:=J g Z;have WW:=z gs g f [] Z;have WW:=WW.1.resolve_right λhx=>hx.2 _ P rfl;rw[List.concat_eq_append]at z;refine⟨⟨h.steps,h.len,by simp at Ku ⊢;omega,h.iS,h.out,h.objs,h.low,λk d=>?_,h.said,.inl ⟨.inl y,Z,mX⟩⟩,z.pre.last rfl,rfl⟩;simp only[List.mem_append,List.mem_singleton]at d;rcases d with d|rfl
    ·exact J k (by simp[d])
    obtain⟨e,H,V,h5,W,h7⟩:=i;refine⟨e,⟨by show 0<=g.pc+1;omega,by show g.pc+1<=((aY u g.aC).code.length:Int);omega⟩,V,by simp;omega,W,λaa C=>?_⟩;simp only[List.mem_append,List.mem_singleton]at C;rcases C with C|rfl
    ·exact h7 aa C
    exact B
   cases a
  rw[if_neg TU]at a;have KE:m=23:=by omega
  subst KE;simp only[if_true]at a;split at a
  ·cases a
  rename_i ad e;obtain⟨R,S,rfl⟩:=iA e;simp only[Except.ok.injEq]at a;subst a;simp[cI]at j;subst j;obtain⟨v,rfl⟩:=eK L;have hr:v.ref=true:=by simpa [gA]using F
  simp only[List.getD_cons_zero]at S ⊢;have Y:=(A v Z).1 hr;have vJ:=zD w X y (n:=v.n) ⟨O,Y.2⟩ s;exact⟨vJ.1,vJ.2 Mg,by unfold bU;split<;>rfl⟩
 rename_i d;split at a
 ·cases a
 rename_i objs g said goes hm;simp only[Except.ok.injEq]at a;subst a;obtain⟨G,e2,T,e4,e5,e6⟩:=Mf hG1 hT A N (λQI=>by
  obtain⟨m,o,t⟩:=Q;simp only at QI;subst QI;simp[cI]at j;subst j;obtain⟨v,rfl⟩:=eK L;exact⟨v,rfl,by simpa [gA]using F⟩) hm
 have hle:M.objs.length<=objs.length:=by omega
 refine⟨⟨h.steps,⟨G.len,by show objs.length<=207;have:=h.len.2;omega⟩,by simpa using Ku,?_,h.out.mono hle,G.vK,G.low,λk d=>?_,?_,.inl ⟨.inl y,Z,mX⟩⟩,z.last T,rfl⟩
 ·rcases e5 with rfl|⟨aa,_,rfl⟩
  ·exact h.iS
  simp;omega
 ·simp only[List.mem_append,List.mem_singleton]at d;rcases d with d|rfl
  ·exact(J k d).mono hle
  obtain⟨e,H,V,h4,h5,W⟩:=G.gh;refine⟨e,?_,V,h4,h5,W⟩;simp only at T;simp only[T];split
  ·rename_i i;have QL:=e6 i;obtain⟨m,o,t⟩:=Q;simp only at QL;have hk4:m=8\/m=9\/m=10\/m=11:=by omega
   have I:0<=o/\o < (aY u f.aC).code.length:=by
    rcases hk4 with rfl|rfl|rfl|rfl;all_goals
     have:=(aL (p:=4) (q:=0) rfl).1 N;simp[br]at this;exact this.1
   exact⟨I.1,by show o<=_;omega⟩
  have:=b.2.1;exact⟨O,O⟩
 intro n E;rcases e5 with rfl|⟨aa,C,rfl⟩
 ·exact h.said n E
 simp only[List.mem_append,List.mem_singleton]at E;rcases E with E|rfl
 ·exact h.said n E
 exact C
theorem so {objs:List Ob} {f:bL} {v:Vl} {k:Int} (h:cM objs f v=.error k):k=0:=by
 unfold cM at h;split at h
 ·cases h
 simpa using h.symm
theorem DW {objs:List Ob} {f:bL} {b:List Int} {v:Vl} {k:Int} (h:dV objs f b v=.error k):k=0:=by
 unfold dV at h;split at h
 ·cases h
 rename_i e a;simp only[Except.error.injEq]at h;subst h;exact so a
theorem pM {objs:List Ob} {n:Int} {a:Bool} {k:Int} (h:dJ objs n a=.error k):k=0\/k=2:=by
 unfold dJ at h;split at h
 ·exact .inl (by simpa using h.symm)
 split at h
 ·exact .inr (by simpa using h.symm)
 cases h
theorem Ga {objs:List Ob} {x:Vl} {a n k:Int} (h:mz objs x a n=.error k):k=0\/k=2\/k=3:=by
 unfold mz at h;split at h
 ·rename_i e b;simp only[Except.error.injEq]at h;subst h;rcases pM b with h|h
  ·exact .inl h
  exact .inr (.inl h)
 split at h
 ·cases h
 exact .inr (.inr (by simpa using h.symm))
def xY (k:Int):Prop:=k=0\/0 < k/\k<=7
theorem zE {u:aS} {x:dc} {b:List Vl} {objs:List Ob} {f:bL} {k:Int} (h:bt u x b objs f=.error k):xY k:=by
 unfold bt at h;simp only[nq]at h;repeat' split at h
 all_goals first
  | (cases h;done)
  | (have:=so h;unfold xY;omega)
  | (rename_i e a;simp only[Except.error.injEq]at h;subst h;first|(have:=pM a;unfold xY;omega)|(have:=Ga a;unfold xY;omega))
  | (simp only[Except.error.injEq]at h;unfold xY;omega)
theorem Gc {u:aS} {x:dc} {y:List Vl} {objs:List Ob} {f:bL} {v:List Int} {k:Int} (h:eF u x y objs f v=.error k):xY k:=by
 have a:∀ {f1:bL} {z:Vl},dV objs f1 v z=.error k->xY k:=λh=>by have:=DW h;unfold xY;omega
 unfold eF at h;simp only at h;by_cases c:x.kind=1
 ·rw[if_pos c]at h;exact a h
 rw[if_neg c]at h;by_cases g:x.kind=2
 ·rw[if_pos g]at h;exact a h
 rw[if_neg g]at h;by_cases j:x.kind=3
 ·rw[if_pos j]at h;exact a h
 rw[if_neg j]at h;by_cases m:x.kind=4
 ·rw[if_pos m]at h;cases h
 rw[if_neg m]at h;by_cases o:x.kind=5
 ·rw[if_pos o]at h;cases h
 rw[if_neg o]at h;by_cases p:x.kind=6
 ·rw[if_pos p]at h;split at h
  ·exact a h
  rename_i w b;simp only[Except.error.injEq]at h;subst h;have:=so b;unfold xY;omega
 rw[if_neg p]at h;by_cases q:x.kind=7
 ·rw[if_pos q]at h;split at h
  ·exact a h
  simp only[Except.error.injEq]at h;unfold xY;omega
 rw[if_neg q]at h;by_cases s:x.kind=8
 ·rw[if_pos s]at h;cases h
 rw[if_neg s]at h;by_cases t:x.kind=9
 ·rw[if_pos t]at h;cases h
 rw[if_neg t]at h;by_cases d:x.kind=10
 ·rw[if_pos d]at h;cases h
 rw[if_neg d]at h;by_cases e:x.kind=11
 ·rw[if_pos e]at h;cases h
 rw[if_neg e]at h;by_cases i:x.kind=24
 ·rw[if_pos i]at h;cases h
 rw[if_neg i]at h;split at h
 ·cases h
 rename_i w b;simp only[Except.error.injEq]at h;subst h;exact zE b
theorem DX {u:aS} {to:Int} {a:List Vl} {M:bH} {k:Int} (h:eZ u to a M=.error k):xY k:=by
 unfold eZ at h;split at h
 ·simp only[Except.error.injEq]at h;unfold xY;omega
 cases h
theorem BI {u:aS} {x:dc} {b:List Vl} {fs:List bL} {M:bH} {k:Int} (h:eN u x b fs M=.error k):xY k:=by
 unfold eN at h;simp only[lq]at h;repeat' split at h
 all_goals first
  | (cases h;done)
  | exact DX h
  | (rename_i e a;simp only[Except.error.injEq]at h;subst h;have:=pM a;unfold xY;omega)
  | (simp only[Except.error.injEq]at h;unfold xY;omega)
theorem xZ {u:aS} {fs:List bL} {f:bL} {M:bH} {k:Int} (h:ig u fs f M=.error k):xY k:=by
 unfold ig at h;simp only at h;split at h
 ·simp only[Except.error.injEq]at h;unfold xY;omega
 split at h
 ·simp only[Except.error.injEq]at h;unfold xY;omega
 split at h
 ·exact BI h
 split at h
 ·rename_i e a;simp only[Except.error.injEq]at h;subst h;exact Gc a
 cases h
theorem mF {u:aS} {n:Int} {M:bH}:(bU u n M).steps=M.steps:=by unfold bU;split<;>rfl
theorem zF {u:aS} {to:Int} {a:List Vl} {M M':bH} (h:eZ u to a M=.ok M'):M'.steps=M.steps:=by
 unfold eZ at h;split at h
 ·cases h
 simp only[Except.ok.injEq]at h;subst h;rfl
theorem wH {u:aS} {fs:List bL} {f:bL} {M M':bH} (h:ig u fs f M=.ok M'):M'.steps=M.steps:=by
 unfold ig at h;simp only at h;split at h
 ·cases h
 split at h
 ·cases h
 split at h
 ·unfold eN at h;simp only[lq]at h;repeat' split at h
  all_goals first
   | (cases h;done)
   | (have:=zF h;exact this)
   | (simp only[Except.ok.injEq]at h;subst h;first|rfl|exact mF)
 split at h
 ·cases h
 simp only[Except.ok.injEq]at h;subst h;rfl
theorem mE.Mi {u:aS} (b:cC u) {M:bH} (h:mE u M) (c:M.fin=0):FW u M where
 inv:=h.inv
 gh _:=by
  rcases h.fin with a|a|a
  ·exact a.2.1
  ·omega
  omega
 send f hf:=wF b (h.gh f hf).1
 fault fs f k _ hd:=xZ hd
 cls k a h2:=by rw[h.low k a h2];have:=b.1.1;omega
 steps:=h.steps
 FX fs f M' _ hd:=wH hd
theorem CW {u:aS} {s:Bool} (j:cC u) {M:bH} (h:mE u M) (d:iq u M.au s):mE u (dA u M)/\iq u (dA u M).au s:=by
 unfold dA;split
 ·exact⟨h,d⟩
 rename_i x;split
 ·exact⟨h,d⟩
 rename_i m b;have q:M.au=M.au.dropLast++[m]:=by
  have g:M.au≠[]:=by intro t;rw[t]at b;cases b
  have:=List.dropLast_concat_getLast g;rw[List.getLast?_eq_some_getLast g]at b;simp only[Option.some.injEq]at b;rw[b]at this;exact this.symm
 have f:M.fin=0:=by omega
 have z:=h.steps;have up:∀ {N:bH},mE u N->N.steps=M.steps->mE u {N with steps:=N.steps+1}:=λ{N} a w =>
  ⟨by show 0<=N.steps+1/\N.steps+1<=200;omega,a.len,a.nf,a.iS,a.out,a.objs,a.low,a.gh,a.said,a.fin⟩
 split
 ·rename_i v e;obtain⟨c,o,p⟩:=OX j h f q O O d e;exact⟨up c p,o⟩
 rename_i k e;split
 ·refine⟨⟨by show 0<=M.steps+1/\M.steps+1<=200;omega,h.len,h.nf,h.iS,h.out,h.objs,h.low,h.gh,h.said,?_⟩,d⟩;rcases h.fin with c|c|c
  ·exact .inl ⟨.inr rfl,c.2⟩
  ·omega
  omega
 rename_i y;have b:=xZ e;have i:=zD j h f (n:=k) (by have:=h.len.1;unfold xY at b;omega) s;exact⟨up i.1 mF,i.2 d⟩
theorem Gd {cs:List dH} (ok:cn cs):cP cs 1=[1]:=by
 have d:=ok.1;have a:(1:Nat) < cs.length:=by omega
 have b:=ok.2.2 1 a;have c:bC cs 1=cs[1].bO:=jK a;rw[jB ok O O,c,(b.2.2.1 rfl).1,ep O];have:gx cs 1=cs[1].fields:=by simp[gx,a]
 rw[this,(b.2.2.1 rfl).2];rfl
theorem Mj {u:aS} (b:cC u):mE u (mD u)/\iq u (mD u).au:=by
 have h:=b.aY (k:=0) (by have:=b.2.1.1;omega);have f:=h.1;have t:0<=(aY u 0).locals:=by have:=f.2.2.2.2.2;omega
 refine⟨⟨by simp[mD],by simp[mD,fT],by simp[mD],by simp[mD],ny (by decide),λy d=>?_,λk p q=>?_,λj c=>?_,λn i=>(by cases i),.inl ⟨.inl rfl,by simp[mD],rfl⟩⟩,λo m k w e=>?_⟩
 ·simp only[mD,fT,List.mem_map,List.mem_range]at d;obtain⟨x,s,rfl⟩:=d;refine⟨λv a=>?_,.inr ⟨by simp[mC],by have:=b.1.1;simp only[mC];omega,by simp only[mC];rw[Gd b.1];rfl⟩⟩;simp only[mC,List.mem_singleton]at a;subst a;exact ny O
 ·have g:k=1\/k=2\/k=3\/k=4\/k=5\/k=6\/k=7:=by omega
  rcases g with rfl|rfl|rfl|rfl|rfl|rfl|rfl<;>rfl
 ·simp only[mD,List.mem_singleton]at c;subst c;refine⟨⟨Z,by have:=b.2.1.1;simp only;omega⟩,⟨Z,Z⟩,by simp only[List.length_replicate];omega,Z,λv a=>?_,λv a=>by cases a⟩;rw[List.eq_of_mem_replicate a];exact ny (by decide)
 have:=congrArg List.length e;simp[mD]at this;omega
structure Sx where
 objs:List Ob
 fs:List bL
 f:bL
 said:List Int
 steps:Int
 fin:Int
 out:Vl
 st:Bool
 ft:Int
def Sx.x5 (x:Sx):bH:=⟨x.objs,x.fs++[x.f],x.said,x.steps,x.fin,x.out⟩
structure XM (h0 h:Heap) (bx:Nat) (us:List Value) (u:aS) (M:bH) (st:Bool) (ft:Int) (B:List Nat):Prop where
 ma:fo h0 h bx us [.bool st,.int .i64 ft] M B
 un:cZ h0 us u
abbrev XS (h0 h:Heap) (bx:Nat) (us:List Value) (u:aS) (x:Sx) (B:List Nat):Prop:=XM h0 h bx us u x.x5 x.st x.ft B
def Tp (h:Heap) (b n a:Nat):Prop:=∃ c,rd h b 3=some (.slice (some ⟨a,0,none⟩) (n+1) c)
def XR (h0 h:Heap) (a:Nat) (c:List Value) (u:aS) (B:List Nat) (y:Sx) (h':Heap):Prop:=∃ b,XS h0 h' a c u y b/\Ev h h' (a::B) (a::b)/\rd h' a 3=rd h a 3
theorem XR.trans {h0 h b c:Heap} {a:Nat} {d:List Value} {u:aS} {B B1:List Nat} {y:Sx} (m:Ev h b (a::B) (a::B1)) (e:rd b a 3=rd h a 3) (o:XR h0 b a d u B1 y c):XR h0 h a d u B y c:=by
 obtain⟨f,g,i,j⟩:=o;exact⟨f,g,m.trans i,j.trans e⟩
theorem fo.IT {h0 h:Heap} {bm:Nat} {pre post:List Value} {M:bH} {B:List Nat} (f:fo h0 h bm pre post M B) :
  ∃ mc t,h bm=some (.cells (pre++mc++post).toArray t (0,0))/\mc.length=7/\∀ a,fo h0 (h.set bm (.cells (pre++mc++a).toArray t (0,0))) bm pre a M B/\Ev h (h.set bm (.cells (pre++mc++a).toArray t (0,0))) (bm::B) (bm::B):=by
 have s:=f;obtain⟨le,⟨mc,t,c,own⟩,nd,e⟩:=f;have o:bm ∉ B:=by
  intro d;have q:=List.count_pos_iff.2 d;have i:=nd bm;simp only[List.count_cons,beq_self_eq_true,if_true]at i;omega
 have j:mc.length=7:=by obtain⟨_,_,_,_,_,_,rfl,_⟩:=own;rfl
 refine⟨mc,t,c,j,λa=>⟨⟨Heap.aR le (e bm Z),⟨mc,t,cB _ _ _,own.aJ λb g u p=>?_⟩,nd,e⟩,⟨λb g m=>?_,λb c=>.inl c⟩⟩⟩
 ·have:b≠bm:=by rintro rfl;exact o g
  simp only[Heap.set,this,if_false];exact p
 have:b≠bm:=λd=>m (by simp[d]);simp only[Heap.set,this,if_false]
theorem XM.CX {h0 h:Heap} {b:Nat} {a:List Value} {u:aS} {M:bH} {st:Bool} {c:Int} {B:List Nat} (d:XM h0 h b a u M st c B):a.length=2:=by
 obtain⟨p,e,q,f,rfl,_⟩:=d.un.form;rfl
theorem XM.jl {h0 h:Heap} {a:Nat} {g:List Value} {u:aS} {M:bH} {st:Bool} {f:Int} {B:List Nat} (e:XM h0 h a g u M st f B) :
  rd h a 9=some (.bool st)/\rd h a 10=some (.int .i64 f)/\(∃ p c,rd h a 2=some (.slice p M.objs.length c))/\(∃ p c,rd h a 3=some (.slice p M.au.length c))/\(∃ p c,rd h a 4=some (.slice p M.said.length c)) /\
   ∃ p c q d,g=[.slice p u.aq.length c,.slice q u.methods.length d]/\rd h a 0=some (.slice p u.aq.length c)/\rd h a 1=some (.slice q u.methods.length d)/\dQ h a 0 2=some [.slice p u.aq.length c,.slice q u.methods.length d] /\
    eD h (.slice p u.aq.length c) u.aq/\Row 8 dO h (.slice q u.methods.length d) u.methods:=by
 obtain⟨z,C,A,D,b,⟨w,i,rfl⟩,⟨x,j,rfl⟩,⟨y,m,rfl⟩,_⟩:=e.ma.ints;have v:=e.un.le e.ma.le;obtain⟨p,o,q,d,rfl,s,t,_⟩:=v.form;exact⟨bF b rfl,bF b rfl,⟨w,i,bF b rfl⟩,⟨x,j,bF b rfl⟩,⟨y,m,bF b rfl⟩,p,o,q,d,rfl,bF b rfl,bF b rfl,bK b 2 0 Z,s,t⟩
theorem XM.CY {h0 h:Heap} {c:Nat} {a:List Value} {u:aS} {M:bH} {st Ge:Bool} {f e:Int} {B:List Nat} {K:Heap->Prop} {i:Nat} {v:Value} (m:XM h0 h c a u M st f B)
  (o:(i=9/\v=.bool Ge/\e=f)\/(i=10/\v=.int .i64 e/\Ge=st))
  (w:∀ h',XM h0 h' c a u M Ge e B->Ev h h' (c::B) (c::B)->rd h' c 3=rd h c 3->(∀ b,b≠c->h' b=h b)->K h'):St h c i [v] K:=by
 have j:=m.CX;obtain⟨d,E,g,p,D⟩:=m.ma.IT;obtain⟨A,C⟩:=D [.bool Ge,.int .i64 e];have z:dU (a++d++[.bool st,.int .i64 f]) i [v]=a++d++[.bool Ge,.int .i64 e]:=by
  have t:i=(a++d).length+(i-9):=by rcases o with ⟨rfl,_⟩|⟨rfl,_⟩<;>simp[j,p]
  have q:=gW (pre:=a++d) (x:=[.bool st,.int .i64 f]) (post:=[]) (n:=i) (i:=i-9) (v:=v) t (by rcases o with ⟨rfl,_⟩|⟨rfl,_⟩<;>simp);simp only[List.append_nil]at q;rw[q];rcases o with ⟨rfl,rfl,rfl⟩|⟨rfl,rfl,rfl⟩<;>rfl
 refine Go.Vc.st g (by simp[j,p];omega) ?_;rw[z];refine w _ ⟨A,m.un⟩ C ?_ (λb g=>by simp only[Heap.set,g,if_false]);have y:∀ s:List Value,(a++d++s)[3]? = d[1]?:=by
  intro s;rw[List.getElem?_append_left (by simp[j,p]),List.getElem?_append_right O,j]
 rw[jI];unfold rd;rw[g];show(a++d++[Value.bool Ge,Value.int .i64 e]).toArray[3]? = (a++d++[Value.bool st,Value.int .i64 f]).toArray[3]?;simp only[List.getElem?_toArray,y]
theorem XM.post {h0 h:Heap} {a:Nat} {d:List Value} {u:aS} {M:bH} {st Ge:Bool} {c b:Int} {B:List Nat} {K:Heap->Prop} {i:Nat} {v:Value} (j:XM h0 h a d u M st c B)
  (m:(i=9/\v=.bool Ge/\b=c)\/(i=10/\v=.int .i64 b/\Ge=st))
  (o:∀ h',XM h0 h' a d u M Ge b B->Ev h h' (a::B) (a::B)->rd h' a 3=rd h a 3->K h'):St h a i [v] K:=j.CY m (λh' e f g _=>o h' e f g)
theorem XM.stuck {h0 h:Heap} {a:Nat} {c:List Value} {u:aS} {M:bH} {st:Bool} {b:Int} {B:List Nat} {K:Heap->Prop} (d:XM h0 h a c u M st b B)
  (e:∀ h',XM h0 h' a c u M true b B->Ev h h' (a::B) (a::B)->rd h' a 3=rd h a 3->K h'):St h a 9 [.bool true] K:=d.post (.inl ⟨rfl,rfl,rfl⟩) e
theorem XM.fault {h0 h:Heap} {a:Nat} {b:List Value} {u:aS} {M:bH} {st:Bool} {c k:Int} {B:List Nat} {K:Heap->Prop} (d:XM h0 h a b u M st c B)
  (e:∀ h',XM h0 h' a b u M st k B->Ev h h' (a::B) (a::B)->rd h' a 3=rd h a 3->K h'):St h a 10 [.int .i64 k] K:=d.post (.inr ⟨rfl,rfl,rfl⟩) e
theorem XS.tp {h0 h:Heap} {b:Nat} {g:List Value} {u:aS} {x:Sx} {B:List Nat} (c:XS h0 h b g u x B):∃ a,Tp h b x.fs.length a:=by
 obtain⟨w,y,a,d,p,t,q,r,s,v,o,j,m,e,_⟩:=c.ma.top (fs:=x.fs) (f:=x.f) rfl;exact⟨a,d,bA e (i:=1) (by rw[c.CX]) rfl⟩
theorem XS.lens {h0 h:Heap} {a:Nat} {D:List Value} {u:aS} {x:Sx} {B:List Nat} {d:Nat} (v:XS h0 h a D u x B) (N:Tp h a x.fs.length d) :
  ∃ t q r j o B1 c,h d=some (.cells (q++[.int .i64 x.f.aC,.int .i64 x.f.pc,j,o]++r).toArray t (0,0))/\q.length=x.fs.length*4/\bR h j x.f.locals B1/\bR h o x.f.stack c/\Nd (B1++c)/\(∀ b∈d::(B1++c),h0 b=none/\b∈B) /\
   (∀ b,b∈B1++c->b≠d/\b≠a)/\d≠a /\
   ∀ h' f' m p e g,h' d=some (.cells (q++[.int .i64 f'.aC,.int .i64 f'.pc,m,p]++r).toArray t (0,0))->(∀ b,b ∉ d::(B1++c)->h b≠none->h' b=h b)->bR h' m f'.locals e->bR h' p f'.stack g ->
    (∀ b∈e++g,b∈B1++c\/h b=none)->Nd (e++g)->XR h0 h a D u B {x with f:=f' } h':=by
 obtain⟨tm,vo,vs,F,G,t,q,r,j,o,B1,c,y,J,M,W,X,nd,L,z,C,Y⟩:=v.ma.lens (fs:=x.fs) (f:=x.f) rfl;obtain⟨c0,P⟩:=N;have s:rd h a 3=some (.slice (some ⟨F,0,none⟩) (x.fs.length+1) G):=bA y (i:=1) (by rw[v.CX]) rfl;rw[P]at s;simp only[Option.some.injEq,Value.slice.injEq,Addr.mk.injEq,and_true,true_and]at s;obtain⟨rfl,rfl⟩:=s;refine⟨t,q,r,j,o,B1,c,J,M,W,X,nd,L,z,C,?_⟩;intro h' f' m p e g Q A R S T V;obtain⟨E,I,H⟩:=Y h' f' m p e g Q A R S T V;refine⟨E,⟨I,v.un⟩,H,?_⟩;have K:h' a=h a:=A a (by simp only[List.mem_cons,not_or];exact⟨λw=>C w.symm,λw=>(z _ w).2 rfl⟩) (by rw[y];simp);unfold rd;rw[K]
theorem XS.cA {h0 h:Heap} {C:Nat} {P:List Value} {u:aS} {x:Sx} {B:List Nat} {d:Nat} (R:XS h0 h C P u x B) (W:Tp h C x.fs.length d) :
  ∃ t q r v s o e,h d=some (.cells (q++[.int .i64 x.f.aC,.int .i64 x.f.pc,v,.slice s (x.f.stack.map bM).length o]++r).toArray t (0,0))/\q.length=x.fs.length*4/\bR h (.slice s (x.f.stack.map bM).length o) x.f.stack e/\(∀ b∈e,h0 b=none) /\
   rd h d (x.fs.length*4+3)=some (.slice s (x.f.stack.map bM).length o) /\
   ∀ g A m w z,(∀ b,b ∉ e->h b≠none->g b=h b)->bR g A w m->(∀ b∈m,b∈e\/h b=none) ->
    g d=h d/\XR h0 h C P u B {x with f:={x.f with pc:=z,stack:=w } } (g.set d (.cells (q++[.int .i64 x.f.aC,.int .i64 z,v,A]++r).toArray t (0,0))):=by
 obtain⟨t,q,r,v,v2,G,e,y,I,M,N,nd,T,H,Wr,Y⟩:=R.lens W;obtain⟨s,o,rfl,ur⟩:=N.form;refine⟨t,q,r,v,s,o,e,y,I,N,λb c=>(T b (by simp;grind)).1,bA y (i:=3) (by rw[I]) rfl,?_⟩;intro g A m w z E J F;have K:d ∉ e:=λa=>(H d (by simp[a])).1 rfl;have S:∀ b,b∈G->b ∉ e:=by
  intro b g Q;have:=nd b;have:=List.count_pos_iff.2 g;have:=List.count_pos_iff.2 Q;simp only[List.count_append]at *;omega
 have X:∀ b∈m,b≠d:=by
  intro b c;rcases F b c with a|a
  ·rintro rfl;exact K a
  rintro rfl;rw[y]at a;cases a
 refine⟨E d K (by rw[y];simp),?_⟩;refine Y _ {x.f with pc:=z,stack:=w } v A G m ?_ ?_ ?_ ?_ ?_ ?_
 ·simp[Heap.set]
 ·intro b c V;have D:b≠d:=λa=>c (by simp[a]);simp only[Heap.set,D,if_false];exact E b (λa=>c (by simp[a])) V
 ·refine M.aJ λb c L j=>?_;have D:=(H b (by simp[c])).1;simp only[Heap.set,D,if_false];rw[E b (S b c) (by rw[j];simp)];exact j
 ·refine J.aJ λb c L j=>?_;simp only[Heap.set,X b c,if_false];exact j
 ·intro b c;rcases List.mem_append.1 c with a|a
  ·exact .inl (by simp[a])
  rcases F b a with p|p
  ·exact .inl (by simp[p])
  exact .inr p
 refine Nd.swap nd J.nd λb c=>?_;rcases F b c with a|a
 ·exact .inl a
 refine .inr λp=>?_;obtain⟨L,j⟩:=M.in b p;rw[a]at j;cases j
theorem qK {h0 h:Heap} {a:Nat} {d:List Value} {u:aS} {x:Sx} {B:List Nat} {c:Nat} (f:XS h0 h a d u x B) (b:Tp h a x.fs.length c) (g:x.fs.length<=1000) :
  Pure prog 104 [.pointer (some ⟨a,0,none⟩)] h (.pointer (some ⟨c,x.fs.length*4,none⟩)):=by
 obtain⟨e,b⟩:=b;refine fD aB func104 RD U rfl ?_;conv=>whnf
 repeat' ((first|refine ld b ?_|refine ay ?_|refine av ?_|refine ptr ?_)<;>conv=>whnf)
 refine⟨?_,rfl⟩;have:0+(((x.fs.length+1:Nat):Int)-1).toNat*4=x.fs.length*4:=by omega
 rw[this]
def cY (x:Sx) (v:Vl):Sx:=if 4<=x.f.stack.length then {x with st:=true}else {x with f:={x.f with stack:=x.f.stack++[v]} }
def aZ (x:Sx):Vl × Sx:=match x.f.stack.getLast? with
 | none=>(cE,{x with st:=true})
 | some v=>(v,{x with f:={x.f with stack:=x.f.stack.dropLast} })
def aF (x:Sx):Int × Sx:=if (aZ x).1.ref=true then (0,{ (aZ x).2 with st:=true})else ((aZ x).1.n,(aZ x).2)
def aI (x:Sx):Int × Sx:=if (aZ x).1.ref=true then ((aZ x).1.n,(aZ x).2)else (0,{ (aZ x).2 with st:=true})
def cz (x:Sx) (k:Int):Sx:=if x.ft=0 then {x with ft:=k}else x
def Sx.bad (x:Sx):Prop:=x.st=true\/0 < x.ft
instance (x:Sx):Decidable x.bad:=inferInstanceAs (Decidable (_\/_))
def eG (u:aS) (c k:Int):Bool:=(decide (k < 0) && !decide (c=k))||(decide (0<=k) && !(decide (0<=c)&&up u.aq c k))
def bw (u:aS) (x:Sx) (n k:Int):Sx:=if x.bad then x else if n=0 then cz x 2 else if eG u (aK x.objs n).cls k=true then {x with st:=true}else x
def gQ (x:Sx) (o:Ob):Sx:=if x.bad then x else cY {x with objs:=x.objs++[o]} ⟨true,x.objs.length+1⟩
def BJ (u:aS) (x:Sx) (k:Int):Sx:=gQ x ⟨k,(cP u.aq k).map nothing⟩
def jS (k n:Int):Ob:=⟨-1-k,List.replicate (min n 6).toNat ⟨decide (k=1),0⟩⟩
def kG (x:Sx) (k:Int):Sx:=gQ (if 0<=(aF x).1/\(aF x).1<=6 then (aF x).2 else cz (aF x).2 4) (jS k (aF x).1)
def Gf (x:Sx) (c:Int):Sx :=
 let b:=aF x
 let a:=aF b.2
 if (fJ c a.1 b.1).2=true then cY a.2 ⟨false,(fJ c a.1 b.1).1⟩else cz a.2 1
def oV (x:Sx):Sx :=
 let r:=aI x
 if 0 < r.1/\r.2.st=false/\0<=(aK r.2.objs r.1).cls then {r.2 with st:=true}else if r.1=0 then cz r.2 2 else cY r.2 ⟨false,(aK r.2.objs r.1).bp.length⟩
def DY (x:Sx) (n i:Int) (v:Vl):Sx:={x with objs:=fA x.objs n (putAt (aK x.objs n).bp i v)}
def qL (u:aS) (x:Sx) (k:Int) (set:Bool):Sx :=
 let p:=if set=true then aZ x else (cE,x)
 let w:=aF p.2
 let r:=aI w.2
 let y:=bw u r.2 r.1 (-1-k)
 if y.bad then y else if ¬(0<=w.1/\w.1 < (aK y.objs r.1).bp.length)then cz y 3 else if set=true then DY y r.1 w.1 p.1 else cY y ((aK y.objs r.1).bp.getD w.1.toNat cE)
def mG (u:aS) (x:Sx) (k i:Int) (set:Bool):Sx :=
 let p:=if set=true then aZ x else (cE,x)
 let r:=aI p.2
 let y:=bw u r.2 r.1 k
 if y.bad then y else if set=true then DY y r.1 i p.1 else cY y ((aK y.objs r.1).bp.getD i.toNat cE)
def oW (u:aS) (x:Sx) (k:Int):Sx :=
 let r:=aI x
 if r.2.st=true then r.2 else if 0 < r.1/\gU u.aq (typeOf (aK r.2.objs r.1).cls) (8+k)=false then cz r.2 5 else cY r.2 ⟨true,r.1⟩
theorem lB {x:Sx} {v:Vl} (h:4<=x.f.stack.length):cY x v = {x with st:=true}:=if_pos h
theorem nC {x:Sx} {v:Vl} (h:x.f.stack.length < 4):cY x v = {x with f:={x.f with stack:=x.f.stack++[v]} }:=if_neg O
theorem qM {x:Sx} (h:x.f.stack=[]):aZ x=(cE,{x with st:=true}):=by unfold aZ;rw[h];rfl
theorem eO {x:Sx} {l:List Vl} {v:Vl} (h:x.f.stack=l++[v]):aZ x=(v,{x with f:={x.f with stack:=l} }):=by unfold aZ;rw[h];simp
theorem jw (x:Sx):(aZ x).2.fs=x.fs/\(aZ x).2.objs=x.objs/\(aZ x).2.f.stack.length<=x.f.stack.length/\(aZ x).2.f.locals=x.f.locals:=by
 rcases List.eq_nil_or_concat x.f.stack with h|⟨l,v,h⟩
 ·rw[qM h];simp
 rw[List.concat_eq_append]at h;rw[eO h,h];simp
theorem hY (x:Sx):(aI x).2.fs=x.fs/\(aI x).2.objs=x.objs/\(aI x).2.f.stack.length<=x.f.stack.length/\(aI x).2.f.locals=x.f.locals:=by
 unfold aI;split<;>exact jw x
def KF (v:Vl):Value:=.agg #[.bool v.ref,.int .i64 v.n]
theorem jT {h0 h:Heap} {c:Nat} {m:List Value} {u:aS} {x:Sx} {B:List Nat} (a:XS h0 h c m u x B) (E:x.fs.length<=1000) (S:x.f.stack.length<=1000) (v:Vl) :
  bI prog 139 [.pointer (some ⟨c,0,none⟩),KF v] h λ_ h'=>XR h0 h c m u B (cY x v) h':=by
 obtain⟨L,g⟩:=a.tp;obtain⟨W,V,r,Y,T,M,K,C,F,H,D,j,J⟩:=a.cA g;have hle:=a.ma.le;have R:=dP bM x.f.stack;have G:=qK a g E;refine bT aB func139 R7 U rfl ?_;conv=>whnf
 refine ax G ?_;conv=>whnf
 refine ld j ?_;conv=>whnf
 apply aD<;>intro s;all_goals conv=>whnf
 ·refine a.stuck (λd A p b=>?_);conv=>whnf
  rw[lB O];exact⟨B,A,p,b⟩
 repeat' ((first|exact trivial|refine ld j ?_|apply And.intro)<;>conv=>whnf)
 all_goals
  refine cX (h0:=h0) (ys:=[bM v]) H D hle rfl rfl (by simp[bM]) rfl rfl (by simp;omega) (by simp;omega) ?_;intro X d e N f P w y;have q:=f.form;obtain⟨I,o,rfl,Q⟩:=q;have t:bR d (.slice I (x.f.stack.map bM++[bM v]).length o) (x.f.stack++[v]) e:=by unfold bR;rw[List.map_append];exact f
  obtain⟨b,z⟩:=J d _ e (x.f.stack++[v]) x.f.pc w t y;rw[C]at b;conv=>whnf
  repeat' ((first|refine st b (by simp;omega) ?_)<;>conv=>whnf)
  rw[Bn (i:=3) (by rw[F]) Z,nC O];exact z
theorem Gg {h0 h:Heap} {d:Nat} {F:List Value} {u:aS} {x:Sx} {B:List Nat} (e:XS h0 h d F u x B) (T:x.fs.length<=1000) (hs:x.f.stack.length<=1000) :
  bI prog 138 [.pointer (some ⟨d,0,none⟩)] h λv h'=>v=KF (aZ x).1/\XR h0 h d F u B (aZ x).2 h'/\∀ a,Tp h d x.fs.length a->rd h' a (x.fs.length*4+2)=rd h a (x.fs.length*4+2):=by
 obtain⟨a,m⟩:=e.tp;have D:∀ b,Tp h d x.fs.length b->b=a:=by
  rintro b ⟨c1,p⟩;obtain⟨j,q⟩:=m;rw[p]at q;simp only[Option.some.injEq,Value.slice.injEq,Addr.mk.injEq,and_true,true_and]at q;exact q.1
 have N:a≠d:=by
  obtain⟨_,_,_,_,_,_,_,_,_,_,_,_,_,_,V,_⟩:=e.lens m;exact V
 obtain⟨ab,X,r,G,p2,j,B2,y,hq,s,DJ,t,ju⟩:=e.cA m;have hle:=e.ma.le;have hlen:=dP bM x.f.stack;have C:=qK e m T;rcases List.eq_nil_or_concat x.f.stack with A|⟨l,H,g⟩
 ·have h0:(List.map bM x.f.stack).length=0:=by rw[A];rfl
  refine bT aB func138 LF J8 rfl ?_;conv=>whnf
  refine ax C ?_;conv=>whnf
  refine ld t ?_;conv=>whnf
  refine bZ ?_;conv=>whnf
  refine e.CY (Ge:=true) (.inl ⟨rfl,rfl,rfl⟩) (λh1 M K I p=>?_);conv=>whnf
  rw[qM A];exact⟨rfl,⟨B,M,K,I⟩,λb f=>by rw[D b f];unfold rd;rw[p a N]⟩
 rw[List.concat_eq_append]at g;have ko:x.f.stack.length=l.length+1:=by rw[g];simp
 have S:l.length < x.f.stack.length:=by omega
 obtain⟨c,rfl,E,_,rfl,_⟩:=s.two S;have Q:x.f.stack[l.length]=H:=by simp[g]
 rw[Q]at E;have w:(((List.map bM x.f.stack).length:Int)-1).toNat=l.length:=by omega
 have Y:dQ h c (0+(((List.map bM x.f.stack).length:Int)-1).toNat*2) 2=some (bM H):=by rw[w];exact E
 have P:=s.form;obtain⟨_,_,z,ur⟩:=P;simp only[Value.slice.injEq]at z;obtain⟨_,_,rfl⟩:=z;have W:bR h (.slice (some ⟨c,0,none⟩) l.length j) l [c]:=by
  have:=bW.first (l:=l.length) s O;have J:(List.map bM x.f.stack).take l.length=l.map bM:=by rw[g];simp
  rw[J]at this;exact this
 have o:=(ju h _ [c] l x.f.pc (λ_ _ _=>rfl) W (λaa f=>.inl f)).2;rw[<-w]at o;refine bT aB func138 LF J8 rfl ?_;conv=>whnf
 refine ax C ?_;conv=>whnf
 refine ld t ?_;conv=>whnf
 refine bD ?_;conv=>whnf
 repeat' ((first|refine ld t ?_|refine dh Y ?_|refine ay ?_|refine av ?_|refine ptr ?_)<;>conv=>whnf)
 refine jd y (i:=3) [.int .i64 x.f.aC,.int .i64 x.f.pc,G,.slice (some ⟨c,0,none⟩) (((List.map bM x.f.stack).length:Int)-1).toNat j] O Z rfl (λh9 R L=>?_);rw[<-R]at o;conv=>whnf
 rw[eO g];refine⟨rfl,o,λb f=>?_⟩;rw[D b f,bA y (i:=2) O rfl];exact bA (pre:=X) (x:=[.int .i64 x.f.aC,.int .i64 x.f.pc,G,.slice (some ⟨c,0,none⟩) (((List.map bM x.f.stack).length:Int)-1).toNat j]) (post:=r) L (i:=2) O rfl
theorem uK {h0 h:Heap} {a:Nat} {c:List Value} {u:aS} {x:Sx} {B:List Nat} (d:XS h0 h a c u x B) (e:x.fs.length<=1000) (f:x.f.stack.length<=1000) :
  bI prog 138 [.pointer (some ⟨a,0,none⟩)] h λv h'=>v=KF (aZ x).1/\XR h0 h a c u B (aZ x).2 h':=(Gg d e f).mono λ_ _ b=>⟨b.1,b.2.1⟩
structure jn (u:aS) (x:Sx):Prop where
 len:7<=x.objs.length/\x.objs.length<=300
 vK:∀ o∈x.objs,CU u x.objs.length o
 nf:x.fs.length<=3
 gh:tC u x.objs.length x.f
 ft:0<=x.ft
theorem tC.cA {u:aS} {n:Nat} {f:bL} (h:tC u n f) {l:List Vl} (a:l.length<=4) (b:∀ v∈l,iR n v):tC u n {f with stack:=l}:=⟨h.1,h.2.1,h.2.2.1,a,h.2.2.2.2.1,b⟩
theorem jn.stuck {u:aS} {x:Sx} (h:jn u x):jn u {x with st:=true}:=⟨h.len,h.vK,h.nf,h.gh,h.ft⟩
theorem jn.pop {u:aS} {x:Sx} (h:jn u x):jn u (aZ x).2/\iR x.objs.length (aZ x).1:=by
 rcases List.eq_nil_or_concat x.f.stack with a|⟨l,v,a⟩
 ·rw[qM a];exact⟨h.stuck,ny (by decide)⟩
 rw[List.concat_eq_append]at a;rw[eO a];have c:=h.gh.2.2.2.1;have b:=h.gh.2.2.2.2.2;rw[a]at c b;exact⟨⟨h.len,h.vK,h.nf,h.gh.cA (by simp at c;omega) (λw d=>b w (by simp[d])),h.ft⟩,b v Z⟩
theorem jn.word {u:aS} {x:Sx} (h:jn u x):jn u (aF x).2/\-128<=(aF x).1/\(aF x).1<=127:=by
 have a:=h.pop;unfold aF;split
 ·exact⟨a.1.stuck,Z⟩
 rename_i b;exact⟨a.1,eA.1 (a.2.2 (by simpa using b))⟩
theorem jn.ref {u:aS} {x:Sx} (h:jn u x):jn u (aI x).2/\0<=(aI x).1/\(aI x).1<=x.objs.length:=by
 have a:=h.pop;unfold aI;split
 ·rename_i b;exact⟨a.1,a.2.1 b⟩
 exact⟨a.1.stuck,Z⟩
theorem jn.OY {u:aS} {x:Sx} (h:jn u x) {k:Int} (a:0<=k):jn u (cz x k):=by
 unfold cz;split
 ·exact⟨h.len,h.vK,h.nf,h.gh,a⟩
 exact h
theorem jn.push {u:aS} {x:Sx} (h:jn u x) {v:Vl} (b:iR x.objs.length v):jn u (cY x v):=by
 unfold cY;split
 ·exact h.stuck
 refine⟨h.len,h.vK,h.nf,h.gh.cA (by simp;omega) (λw a=>?_),h.ft⟩;simp only[List.mem_append,List.mem_singleton]at a;rcases a with a|rfl
 ·exact h.gh.2.2.2.2.2 w a
 exact b
theorem XM.mono {h0 h h':Heap} {a:Nat} {g:List Value} {u:aS} {M:bH} {f:Bool} {d:Int} {B:List Nat} (b:XM h0 h a g u M f d B) (c:h.le h'):XM h0 h' a g u M f d B/\Ev h h' (a::B) (a::B)/\rd h' a 3=rd h a 3:=by
 obtain⟨_,_,_,⟨p,m,e⟩,_⟩:=b.jl;exact⟨⟨b.ma.mono c,b.un⟩,Ev.of_le c _ (λj i=>.inl i),by rw[e,aW c e]⟩
theorem kH {h0 h:Heap} {b:Nat} {i:List Value} {u:aS} {x:Sx} {B:List Nat} (o:XS h0 h b i u x B) (f:jn u x) :
  bI prog 143 [.pointer (some ⟨b,0,none⟩)] h λv h'=>v=.int .i64 (aF x).1/\XR h0 h b i u B (aF x).2 h':=by
 have q:=uK o (by have:=f.nf;omega) (by have:=f.gh.2.2.2.1;omega);refine bT aB func143 R9 U rfl ?_;conv=>whnf
 refine aG q (λv t e=>?_);have s:=e.1;subst s;refine e.2.elim λc a=>?_;have d:=a.1;conv=>whnf
 apply dM<;>intro g;all_goals conv=>whnf
 ·refine d.stuck (λw p m j=>?_);conv=>whnf
  unfold aF;rw[if_pos g];exact⟨rfl,c,p,a.2.1.trans m,j.trans a.2.2⟩
 unfold aF;rw[if_neg (by rw[g];simp)];exact⟨rfl,c,d,a.2⟩
theorem sZ {h0 h:Heap} {b:Nat} {i:List Value} {u:aS} {x:Sx} {B:List Nat} (o:XS h0 h b i u x B) (f:jn u x) :
  bI prog 102 [.pointer (some ⟨b,0,none⟩)] h λv h'=>v=.int .i64 (aI x).1/\XR h0 h b i u B (aI x).2 h':=by
 have q:=uK o (by have:=f.nf;omega) (by have:=f.gh.2.2.2.1;omega);refine bT aB func102 RB U rfl ?_;conv=>whnf
 refine aG q (λv t e=>?_);have s:=e.1;subst s;refine e.2.elim λc a=>?_;have d:=a.1;conv=>whnf
 apply cq<;>intro g;all_goals conv=>whnf
 ·refine d.stuck (λw p m j=>?_);conv=>whnf
  unfold aI;rw[if_neg (by rw[g];simp)];exact⟨rfl,c,p,a.2.1.trans m,j.trans a.2.2⟩
 unfold aI;rw[if_pos g];exact⟨rfl,c,d,a.2⟩
theorem iH {h0 h:Heap} {a:Nat} {c:List Value} {u:aS} {x:Sx} {B:List Nat} (b:XS h0 h a c u x B) (k:Int) :
  bI prog 103 [.pointer (some ⟨a,0,none⟩),.int .i64 k] h λ_ h'=>XR h0 h a c u B (cz x k) h':=by
 obtain⟨_,i,_⟩:=b.jl;refine bT aB func103 RC U rfl ?_;conv=>whnf
 refine ld i ?_;conv=>whnf
 apply aD<;>intro g;all_goals conv=>whnf
 ·refine b.fault (λj f e d=>?_);conv=>whnf
  unfold cz;rw[if_pos g];exact⟨B,f,e,d⟩
 unfold cz;rw[if_neg g];exact⟨B,b,Ev.refl _ _,rfl⟩
theorem XS.gZ {h0 h:Heap} {a:Nat} {q:List Value} {u:aS} {x:Sx} {B:List Nat} (f:XS h0 h a q u x B) {n:Int} (J:0 < n) (K:n<=x.objs.length) :
  ∃ e c v Bi,rd h a 2=some (.slice (some ⟨e,0,none⟩) x.objs.length c)/\rd h e (0+(n-1).toNat*2)=some (.int .i64 (aK x.objs n).cls)/\rd h e (0+(n-1).toNat*2+1)=some v/\bR h v (aK x.objs n).bp Bi /\
   ∀ h' d,bR h' v d Bi->(∀ b,b ∉ Bi->h b≠none->h' b=h b)->XR h0 h a q u B {x with objs:=fA x.objs n d } h':=by
 have j:(n-1).toNat < x.objs.length:=by omega
 obtain⟨e,c,R,S,T,P,r,Q,v,Bi,t,y,M,H,w,L,C,I⟩:=f.ma.obj (qA x.objs j);have N:(x.objs.take (n-1).toNat).length=(n-1).toNat:=by simp;omega
 have m:aK x.objs n=x.objs[(n-1).toNat]:=qB j O;refine⟨e,c,v,Bi,bA t (i:=0) (by rw[f.CX]) rfl,by rw[m];exact bA y (i:=0) O rfl,bA y (i:=1) O rfl,by rw[m];exact H,λh' d G p=>?_⟩;obtain⟨s,z,E⟩:=I h' d G p;have F:fA x.objs n d=x.objs.take (n-1).toNat++{x.objs[(n-1).toNat]with bp:=d }::x.objs.drop ((n-1).toNat+1):=by
  unfold fA;rw[m,List.set_eq_take_append_cons_drop,if_pos j]
 have D:h' a=h a:=by
  refine p a (λo=>?_) (by rw[t];simp);exact C (w _ o).1
 refine⟨s,⟨?_,f.un⟩,⟨λb g A=>p b (λo=>A (by simp[(w b o).1])) g,λb g=>.inl ((E b).1 g)⟩,by unfold rd;rw[D]⟩;show fo h0 h' a q _ ⟨fA x.objs n d,_,_,_,_,_⟩ s;rw[F];exact z
theorem qN {h0 h:Heap} {f:Nat} {us:List Value} {u:aS} {x:Sx} {B:List Nat} (t:XS h0 h f us u x B) (M:jn u x) (ok:cn u.aq) (n k:Int) (hn:0<=n/\n<=x.objs.length) (hk : -2<=k) :
  bI prog 141 [.pointer (some ⟨f,0,none⟩),.int .i64 n,.int .i64 k] h λv h'=>XR h0 h f us u B (bw u x n k) h'/\(∃ A on,v=.pointer (some ⟨A,on,none⟩)) /\
   (¬(bw u x n k).bad->0 < n/\bw u x n k=x/\∃ s c,rd h' f 2=some (.slice (some ⟨s,0,none⟩) x.objs.length c)/\v=.pointer (some ⟨s,0+(n-1).toNat*2,none⟩)):=by
 obtain⟨J,I,_,_,_,H,C,N,L,rfl,r0,r1,WX,hcs,kS⟩:=t.jl;have hl:=M.len.2;by_cases m:x.bad
 ·have o:bw u x n k=x:=if_pos m;rw[o];refine bT aB func141 Is E9 rfl ?_;conv=>whnf
  refine dn [.int .i64 0,.slice none 0 0] rfl (λA d E R b S=>?_);have g:=t.mono b;have q:XS h0 d f _ u x B:=g.1;have z:=aW b J;have y:=aW b I;conv=>whnf
  refine ld z ?_;conv=>whnf
  have fin:XR h0 h f [.slice H u.aq.length C,.slice N u.methods.length L] u B x d:=⟨B,q,g.2⟩
  apply dM<;>intro i;all_goals conv=>whnf
  ·exact⟨fin,⟨_,_,rfl⟩,λa=>absurd m a⟩
  have F:0 < x.ft:=by
   rcases m with D|D
   ·rw[i]at D;cases D
   exact D
  refine ld y ?_;conv=>whnf
  refine eR F ?_;conv=>whnf
  exact⟨fin,⟨_,_,rfl⟩,λa=>absurd m a⟩
 have nu:x.st=false:=by
  cases e:x.st with
  | false=>rfl
  | true=>exact absurd (.inl e) m
 have F:x.ft=0:=by
  have:=M.ft;have:¬0 < x.ft:=λa=>m (.inr a);omega
 rw[nu]at J;rw[F]at I;by_cases G:n=0
 ·have o:bw u x n k=cz x 2:=by unfold bw;rw[if_neg m,if_pos G]
  have hwb:(cz x 2).bad:=.inr (by unfold cz;rw[if_pos F];show(0:Int) < 2;omega);rw[o];refine bT aB func141 Is E9 rfl ?_;conv=>whnf
  refine dn [.int .i64 0,.slice none 0 0] rfl (λA d E R b S=>?_);have g:=t.mono b;have q:XS h0 d f _ u x B:=g.1;have z:=aW b J;have y:=aW b I;conv=>whnf
  repeat' ((first|refine ld z ?_|refine ld y ?_|refine ay ?_|refine av ?_|refine ptr ?_)<;>conv=>whnf)
  refine eR G ?_;conv=>whnf
  refine aG (iH q 2) (λv j e=>?_);conv=>whnf
  exact⟨e.trans g.2.1 g.2.2,⟨_,_,rfl⟩,λa=>absurd hwb a⟩
 have FD:=t.gZ (n:=n) O hn.2;obtain⟨s,c,v,Bi,q2,q3,_,_,_⟩:=FD;have X:=M.vK _ (fU (objs:=x.objs) (n:=n) O hn.2);have rG : -2<=(aK x.objs n).cls/\(aK x.objs n).cls < u.aq.length:=by
  rcases X.2 with ⟨j,_⟩|⟨j,h3,_⟩
  ·have:=ok.1;omega
  omega
 have o:bw u x n k=if eG u (aK x.objs n).cls k=true then {x with st:=true}else x:=by unfold bw;rw[if_neg m,if_neg G]
 generalize (aK x.objs n).cls=p at q3 rG o;have E:eG u p k=true->bw u x n k = {x with st:=true}:=λa=>by rw[o,if_pos a]
 have Y:eG u p k=false->bw u x n k=x:=λa=>by rw[o,if_neg (by rw[a];simp)]
 have CT:=λ(d:Heap) (b:h.le d) (c0:0<=p) (k0:0<=k)=>pE H u.aq.length C u.aq p k d (hcs.le b (λ_ _ a=>a.le b)) ok O O k0;refine bT aB func141 Is E9 rfl ?_;conv=>whnf
 refine dn [.int .i64 0,.slice none 0 0] rfl (λA d yE R b S=>?_);have g:=t.mono b;have q:XS h0 d f _ u x B:=g.1;have z:=aW b J;have y:=aW b I;have TV:=aW b r0;have P:=aW b q2;have Q:=aW b q3;have bad:eG u p k=true->∀ K:Heap->Prop,(∀ j,(XR h0 h f [.slice H u.aq.length C,.slice N u.methods.length L] u B (bw u x n k) j/\(bw u x n k).bad)->K j)->St d f 9 [.bool true] K:=λa K hk =>
  q.stuck (λj AJ zy e2=>hk j (by rw[E a];exact⟨⟨B,AJ,g.2.1.trans zy,e2.trans g.2.2⟩,.inl rfl⟩))
 have W:eG u p k=false->XR h0 h f [.slice H u.aq.length C,.slice N u.methods.length L] u B (bw u x n k) d/\bw u x n k=x:=λa=>by rw[Y a];exact⟨⟨B,q,g.2⟩,rfl⟩
 have BA:0+((n:Int)-1).toNat*2=0+(n-1).toNat*2:=rfl;clear E Y o X;conv=>whnf
 repeat' ((first|refine ld z ?_|refine ld y ?_|refine ay ?_|refine av ?_|refine ptr ?_)<;>conv=>whnf)
 refine cx G ?_;conv=>whnf
 repeat' ((first|refine ld P ?_|refine ay ?_|refine av ?_|refine ptr ?_)<;>conv=>whnf)
 apply aD<;>intro V;all_goals conv=>whnf
 ·repeat' ((first|refine ld Q ?_|refine ay ?_|refine av ?_|refine ptr ?_)<;>conv=>whnf)
  apply aU<;>intro i;all_goals conv=>whnf
  ·refine bad (by simp[eG,V,i]) _ (λj e=>?_);conv=>whnf
   exact⟨e.1,⟨_,_,rfl⟩,λa=>absurd e.2 a⟩
  repeat' ((first|refine bD ?_|refine bZ ?_)<;>conv=>whnf)
  have w:=W (by simp[eG,i];omega);exact⟨w.1,⟨_,_,rfl⟩,λ_=>⟨O,w.2,s,c,P,rfl⟩⟩
 repeat' ((first|refine bD ?_|refine bZ ?_)<;>conv=>whnf)
 repeat' ((first|refine ld Q ?_|refine ay ?_|refine av ?_|refine ptr ?_)<;>conv=>whnf)
 apply aD<;>intro T;all_goals conv=>whnf
 ·repeat' ((first|refine ld TV ?_|refine ld Q ?_|refine ay ?_|refine av ?_|refine ptr ?_)<;>conv=>whnf)
  refine aO (CT d b T O) ?_;conv=>whnf
  apply cq<;>intro i;all_goals conv=>whnf
  ·refine bad (by simp[eG,i];omega) _ (λj e=>?_);conv=>whnf
   exact⟨e.1,⟨_,_,rfl⟩,λa=>absurd e.2 a⟩
  have w:=W (by simp[eG,i];omega);exact⟨w.1,⟨_,_,rfl⟩,λ_=>⟨O,w.2,s,c,P,rfl⟩⟩
 repeat' ((first|refine bD ?_|refine bZ ?_)<;>conv=>whnf)
 refine bad (by simp[eG];omega) _ (λj e=>?_);conv=>whnf
 exact⟨e.1,⟨_,_,rfl⟩,λa=>absurd e.2 a⟩
end Go.Proofs
