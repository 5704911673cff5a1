/- Part 6 of the lemmas on which the law rests: what functions of the program and of the reference do; no conditions but those that each lemma states. -/
import Derived.Test.YthkgbjpkklkppaaGreatMa5
set_option linter.unusedSimpArgs false
set_option linter.unusedVariables false
namespace Go.Proofs
open Go.Vc Go.Proofs.Tryz
set_option maxRecDepth 100000
set_option maxHeartbeats 4000000
theorem zQ (h:Heap):bI prog 89 [] h λv h'=>h.le h'/\∃ p c B,v=.slice p 7 c/\dR jt 2 h' v (fT 7) B/\Nd B/\∀ b∈B,h b=none:=by
 refine bT aB func89 Zz U rfl ?_;conv=>whnf
 refine dn [] rfl (λf q w F A o=>?_);conv=>whnf
 refine eu [1,2] [] (λs:Nat × Heap × Option Addr × Nat × List Nat=>s.1<=7/\Acc jt 2 h s.2.1 (.slice s.2.2.1 s.1 s.2.2.2.1) (fT s.1) s.2.2.2.2 []) (λs=>7-s.1)
  (λs=>([.v (.slice s.2.2.1 s.1 s.2.2.2.1),.v (.int .i64 ((s.1:Int)+1))],[],s.2.1))
  (0,q,some ⟨f,0,none⟩,0,[f]) ⟨O,Acc.BQ A w o Z (λ_=>Z) Z Z⟩ rfl ?_
 rintro⟨i,G,K,E,B⟩ ⟨z,ac⟩;simp only at z ac ⊢;conv=>whnf
 apply aD<;>intro m;all_goals conv=>whnf
 ·refine ax (lC _ _) ?_;conv=>whnf
  refine dn [.bool false,.int .i64 ((i:Int)+1)] rfl (λb H d I C x=>?_);conv=>whnf
  refine qz gP vH (a:=mC ((i:Int)+1)) (Bi:=[b]) ac C ⟨_,rfl,gz (vs:=[bM ⟨false,(i:Int)+1⟩]) (t:=31) (by simp[bM]) rfl (by rw[x];rfl)⟩ (λa=>by simp only[List.count_cons,List.count_nil];split<;>omega) (by simpa using d) rfl rfl rfl rfl (by rw[ku];simp;omega) (by rw[ku];omega) ?_;intro D j u g e J;rw[ku,<-xX]at e;rw[ku];conv=>whnf
  refine av ?_;conv=>whnf
  exact cT (i+1,u,D,j,g) ⟨O,e⟩ (by simp only;omega) rfl
 have y:i=7:=by omega
 subst y;exact⟨ac.le,_,_,B,rfl,ac.own,by have:=ac.nd;simpa using this,λb d=>ac.fr b (by simp[d])⟩
theorem s6 {K:Value->Heap->Prop} {E:List PanicEntry->Heap->Prop} (h:Heap) (e:∀ h' p c B,h.le h'->dR jt 2 h' (.slice p 7 c) (fT 7) B->Nd B->(∀ b∈B,h b=none)->K (.slice p 7 c) h'):fE prog 89 [] h K E:=cO (zQ h) (λv h' f=>by
 obtain⟨a,p,c,B,rfl,own,nd,d⟩:=f;exact⟨a,e h' p c B a own nd d⟩)
theorem Nd.two {A B:List Nat} (d:Nd A) (e:Nd B) (f:∀ b∈B,b ∉ A):Nd (A++B):=by
 intro a;have g:=d a;have h:=e a;simp only[List.count_append];by_cases c:a∈B
 ·have:=List.count_eq_zero.2 (f a c);omega
 have:=List.count_eq_zero.2 c;omega
theorem eL {h h':Heap} (d:h.le h') {b:Nat} (a:h' b=none):h b=none:=by
 cases c:h b with
 | none=>rfl
 | some o=>rw[d b o c]at a;cases a
theorem iV {a d:Heap} {G:List Nat} (e:∀ b∈G,∃ o,a b=some o) (f:a.le d) {b:Nat} (c:d b=none):b ∉ G:=λg=>by
 obtain⟨o,h⟩:=e b g;rw[f b o h]at c;cases c
theorem dR.vH {h:Heap} {v:Value} {l:List Ob} {B:List Nat} (a:dR jt 2 h v l B):∀ b∈B,∃ o,h b=some o:=a.in Go.Proofs.vH
theorem sw {h:Heap} {v w:Value} {l k:List Vl} {A B:List Nat} (a:bR h v l A) (c:bR h w k B):∀ b∈A++B,∃ o,h b=some o:=λb d=>(List.mem_append.1 d).elim (a.in b) (c.in b)
theorem qR (u:aS) {h x o i:Heap} {z s v:Option Addr} {w p j q m g e:Nat} {B1 c d:List Nat} {t5 t7:TypeId} (M:(aY u 0).locals<=3) (J:dR jt 2 x (.slice z 7 w) (fT 7) B1) (G:x.le i) (K:bR o (.slice s p j) (eY u 0 []).locals c) (L:bR o (.slice v q m) [] d) (y:o.le i)
  (D:i e=some (.cells #[.int .i64 0,.int .i64 0,.slice s p j,.slice v q m] t7 (0,0))) (C:i g=some (.cells #[] t5 (0,0))) (H:Nd B1) (I:Nd (c++d)) (d1:∀ b∈c++d,b ∉ B1) (d2:e ∉ B1) (d3:e ∉ c++d) (d4:g ∉ B1) (d5:g ∉ c++d) (d6:g≠e)
  (f1:∀ b∈B1,h b=none) (f23:∀ b∈c++d,h b=none) (f7:h e=none) (f5:h g=none) (F:h.le i) :
  h.le i/\∃ mc B,(Value.agg #[.slice z 7 w,.slice (some ⟨e,0,none⟩) 1 1,.slice (some ⟨g,0,none⟩) 0 0,.int .i64 0,.int .i64 0,.bool false,.int .i64 0])=.agg ⟨mc⟩/\eX i mc (mD u) B/\Nd B/\∀ b∈B,h b=none:=by
 have E:dR mo 4 i (.slice (some ⟨e,0,none⟩) 1 1) (mD u).au ([e]++(c++d)) :=
  ⟨[[.int .i64 0,.int .i64 0,.slice s p j,.slice v q m]],[e],c++d,gz (t:=t7) Z rfl (by rw[D];rfl),Rows.one ⟨_,_,c,d,rfl,by
   have:=K.aJ (cD.of_le y _);simp only[eY,List.length_nil,Nat.sub_zero,List.nil_append]at this;exact this,L.aJ (cD.of_le y _),rfl⟩,rfl⟩
 refine⟨F,_,B1++([e]++(c++d))++[g],rfl,⟨_,_,_,B1,[e]++(c++d),[g],rfl,J.aJ gP (cD.of_le G _),E,dL C,rfl⟩,?_,λb a=>?_⟩
 ·refine Nd.two (Nd.two H (Nd.two (λA=>by simp only[List.count_cons,List.count_nil];split<;>omega) I (λb a f=>?_)) (λb a=>?_)) (λA=>by simp only[List.count_cons,List.count_nil];split<;>omega) (λb a f=>?_)
  ·rw[List.mem_singleton.1 f]at a;exact d3 a
  ·rcases List.mem_append.1 a with a|a
   ·rw[List.mem_singleton.1 a];exact d2
   exact d1 b a
  rw[List.mem_singleton.1 a]at f;simp only[List.mem_append,List.mem_singleton]at f d5;rcases f with f|f|f
  ·exact d4 f
  ·exact d6 f
  exact d5 f
 simp only[List.mem_append,List.mem_singleton]at a f23;rcases a with (a|rfl|a)|rfl
 ·exact f1 b a
 ·exact f7
 ·exact f23 b a
 exact f5
theorem uQ {c e:Heap} {a b:Nat} {o:Obj} (g:c a=some o) (h:c.le e) (d:e b=none):a≠b:=λf=>by
 subst f;rw[h a o g]at d;cases d
theorem BT (R:List Value) (u:aS) (h:Heap) (Q:cZ h R u) (E:cC u) :
  bI prog 40 [.agg ⟨R⟩] h λv h'=>h.le h'/\∃ mc B,v=.agg ⟨mc⟩/\eX h' mc (mD u) B/\Nd B/\∀ b∈B,h b=none:=by
 have z:=Q;obtain⟨ab,Y,ad,aa,rfl,hcs,kS,ko,hl2⟩:=Q.form;have P:=rU _ u h z;rw[ei E]at P;have x:0<=(0:Int)/\(0:Int) < u.methods.length:=by have:=E.2.1.1;omega
 have y:=(E.aY x).1.2.2.2.2.1;have F:kY h (.slice none 0 0) []:=⟨Z,Z,none,0,rfl,Z,.inl rfl⟩
 refine bT aB func40 YR U rfl ?_;conv=>whnf
 refine ax P ?_;conv=>whnf
 repeat' ((first|exact qR u y g (Heap.le_trans a (Heap.le_trans e d)) j m (Heap.le_trans e d) (d _ _ s) o w q (λb f=>iV g.vH (Heap.le_refl _) (f23 b f)) (iV g.vH a i) (iV (sw j m) (Heap.le_refl _) i) (iV g.vH (Heap.le_trans a e) p) (iV (sw j m) e p) (uQ s (Heap.le_refl _) p).symm f1 (λb f=>eL c (f23 b f)) (eL (Heap.le_trans c a) i) (eL (Heap.le_trans c (Heap.le_trans a e)) p) (Heap.le_trans c (Heap.le_trans a (Heap.le_trans e d)))|exact qR u y g (Heap.le_trans a (Heap.le_trans d e)) j m (Heap.le_trans d e) s (e _ _ o) w q (λb f=>iV g.vH (Heap.le_refl _) (f23 b f)) (iV g.vH (Heap.le_trans a d) i) (iV (sw j m) d i) (iV g.vH a p) (iV (sw j m) (Heap.le_refl _) p) (uQ o (Heap.le_refl _) i) f1 (λb f=>eL c (f23 b f)) (eL (Heap.le_trans c (Heap.le_trans a d)) i) (eL (Heap.le_trans c a) p) (Heap.le_trans c (Heap.le_trans a (Heap.le_trans d e)))|exact qR u y g (Heap.le_trans d (Heap.le_trans a e)) j m e s (e _ _ (a _ _ o)) w q (λb f=>iV g.vH d (f23 b f)) (iV g.vH (Heap.le_trans d a) i) (iV (sw j m) (Heap.le_refl _) i) (iV g.vH (Heap.le_refl _) p) (λt=>uQ o (Heap.le_refl _) (f23 _ t) rfl) (uQ o a i) f1 (λb f=>eL (Heap.le_trans c d) (f23 b f)) (eL (Heap.le_trans c (Heap.le_trans d a)) i) (eL c p) (Heap.le_trans c (Heap.le_trans d (Heap.le_trans a e)))|exact qR u y g (Heap.le_trans a e) j m e s (e _ _ (a _ _ (c _ _ o))) w q (λb f=>iV g.vH (Heap.le_refl _) (f23 b f)) (iV g.vH a i) (iV (sw j m) (Heap.le_refl _) i) (λt=>uQ o (Heap.le_refl _) (f1 _ t) rfl) (λt=>uQ o c (f23 _ t) rfl) (uQ o (Heap.le_trans c a) i) (λb f=>eL d (f1 b f)) (λb f=>eL (Heap.le_trans d c) (f23 b f)) (eL (Heap.le_trans d (Heap.le_trans c a)) i) p (Heap.le_trans d (Heap.le_trans c (Heap.le_trans a e)))|exact trivial|apply And.intro|refine s6 h (λD V T S c g w f1=>?_)|refine s6 N (λD V T S c g w f1=>?_)|refine jX _ u 0 [] _ D (z.le c) x (F.le c) Z O (λM I G A J H C K L a j m q f23=>?_)|refine jX _ u 0 [] _ N (z.le (Heap.le_trans c d)) x (F.le (Heap.le_trans c d)) Z O (λM I G A J H C K L a j m q f23=>?_)|refine jX _ u 0 [] _ D (z.le (Heap.le_trans d c)) x (F.le (Heap.le_trans d c)) Z O (λM I G A J H C K L a j m q f23=>?_)|refine dn [] rfl (λW N p e5 d o=>?_)|refine dn [.int .i64 0,.int .i64 0,.slice I G A,.slice J H C] rfl (λX h7 i e7 e s=>?_))<;>conv=>whnf)
theorem j4 {objs a:List Ob} {f f':bL} {v:Vl} (h:cM objs f v=.ok (a,f')):a=objs:=by
 unfold cM at h;split at h
 ·simp only[Except.ok.injEq,Prod.mk.injEq]at h;exact h.1.symm
 cases h
theorem yh {u:aS} {x:dc} {b:List Vl} {objs a:List Ob} {f f':bL} (h:bt u x b objs f=.ok (a,f')):a.length=objs.length\/a.length=objs.length+1:=by
 unfold bt at h;simp only[nq]at h;repeat' split at h
 all_goals first
  | (have:=j4 h;subst this;simp;done)
  | (simp only[Except.ok.injEq,Prod.mk.injEq]at h;obtain⟨rfl,_⟩:=h;simp[fA];done)
  | (cases h;done)
theorem D5 {u:aS} {x:dc} {I:List Vl} {objs b:List Ob} {f i:bL} {a c:List Int} {j:Bool} (h:eF u x I objs f a=.ok (b,i,c,j)) :
  (b.length=objs.length\/b.length=objs.length+1)/\(c.length=a.length\/c.length=a.length+1):=by
 have g:∀ {f1:bL} {F:Vl},dV objs f1 a F=.ok (b,i,c,j)->(b.length=objs.length\/b.length=objs.length+1)/\(c.length=a.length\/c.length=a.length+1):=by
  intro f1 F h;obtain⟨J,G,m,e⟩:=oD h;simp only[Prod.mk.injEq]at e;obtain⟨rfl,rfl,rfl,rfl⟩:=e;rw[j4 m];simp
 have d:∀ {s:List Int} {f1:bL} {o:Bool},(s.length=a.length\/s.length=a.length+1)->(Except.ok (objs,f1,s,o):HW)=.ok (b,i,c,j)->(b.length=objs.length\/b.length=objs.length+1)/\(c.length=a.length\/c.length=a.length+1):=by
  intro s f1 o H e;simp only[Except.ok.injEq,Prod.mk.injEq]at e;obtain⟨rfl,rfl,rfl,rfl⟩:=e;exact⟨.inl rfl,H⟩
 unfold eF at h;simp only at h;by_cases p:x.kind=1
 ·rw[if_pos p]at h;exact g h
 rw[if_neg p]at h;by_cases v:x.kind=2
 ·rw[if_pos v]at h;exact g h
 rw[if_neg v]at h;by_cases y:x.kind=3
 ·rw[if_pos y]at h;exact g h
 rw[if_neg y]at h;by_cases z:x.kind=4
 ·rw[if_pos z]at h;exact d (.inl rfl) h
 rw[if_neg z]at h;by_cases A:x.kind=5
 ·rw[if_pos A]at h;exact d (.inl rfl) h
 rw[if_neg A]at h;by_cases B:x.kind=6
 ·rw[if_pos B]at h;split at h
  ·exact g h
  cases h
 rw[if_neg B]at h;by_cases C:x.kind=7
 ·rw[if_pos C]at h;split at h
  ·exact g h
  cases h
 rw[if_neg C]at h;by_cases D:x.kind=8
 ·rw[if_pos D]at h;exact d (.inl rfl) h
 rw[if_neg D]at h;by_cases E:x.kind=9
 ·rw[if_pos E]at h;exact d (.inl rfl) h
 rw[if_neg E]at h;by_cases q:x.kind=10
 ·rw[if_pos q]at h;exact d (.inl rfl) h
 rw[if_neg q]at h;by_cases t:x.kind=11
 ·rw[if_pos t]at h;exact d (.inl rfl) h
 rw[if_neg t]at h;by_cases w:x.kind=24
 ·rw[if_pos w]at h;exact d (.inr Z) h
 rw[if_neg w]at h;split at h
 ·rename_i K G m;simp only[Except.ok.injEq,Prod.mk.injEq]at h;obtain⟨rfl,rfl,rfl,rfl⟩:=h;exact⟨yh m,.inl rfl⟩
 cases h
theorem kC {u:aS} {n:Int} {M:bH}:(bU u n M).objs=M.objs/\(bU u n M).said=M.said:=by unfold bU;split<;>exact⟨rfl,rfl⟩
theorem uR {u:aS} {to:Int} {a:List Vl} {M M':bH} (h:eZ u to a M=.ok M'):M'.objs=M.objs/\M'.said=M.said:=by
 unfold eZ at h;split at h
 ·cases h
 simp only[Except.ok.injEq]at h;subst h;exact⟨rfl,rfl⟩
theorem GC {u:aS} {fs:List bL} {f:bL} {M M':bH} (h:ig u fs f M=.ok M'):(M'.objs.length=M.objs.length\/M'.objs.length=M.objs.length+1)/\(M'.said.length=M.said.length\/M'.said.length=M.said.length+1):=by
 have same:∀ {N:bH},N.objs=M.objs/\N.said=M.said->(N.objs.length=M.objs.length\/N.objs.length=M.objs.length+1)/\(N.said.length=M.said.length\/N.said.length=M.said.length+1):=λa=>by rw[a.1,a.2];simp
 unfold ig at h;simp only at h;split at h
 ·cases h
 split at h
 ·cases h
 split at h
 ·unfold eN at h;simp only[lq]at h;repeat' split at h
  all_goals first
   | (cases h;done)
   | (have b:=uR h;exact same (N:=M') ⟨b.1,b.2⟩)
   | (simp only[Except.ok.injEq]at h;subst h;first|exact same ⟨rfl,rfl⟩|exact same kC)
 split at h
 ·cases h
 rename_i e g i d c;simp only[Except.ok.injEq]at h;subst h;exact D5 c
def runM (u:aS):Nat->bH
 | 0=>mD u
 | n+1=>dA u (runM u n)
structure Py (u:aS) (n:Nat) (M:bH):Prop where
 ok:mE u M
 link:iq u M.au
 le:M.steps<=n
 eq:M.fin=0->M.steps=n
 said:(M.said.length:Int)<=M.steps
 objs:(M.objs.length:Int)<=7+M.steps
theorem pO {u:aS} {M:bH}:(dA u M=M/\(M.fin≠0\/200<=M.steps\/200<=M.said.length\/207<=M.objs.length\/M.au=[])) \/
  ((dA u M).steps=M.steps+1/\((dA u M).objs.length=M.objs.length\/(dA u M).objs.length=M.objs.length+1)/\((dA u M).said.length=M.said.length\/(dA u M).said.length=M.said.length+1)/\M.fin=0):=by
 by_cases a:M.fin≠0\/200<=M.steps\/200<=M.said.length\/207<=M.objs.length
 ·left
  refine⟨?_,O⟩;unfold dA;rw[if_pos a]
 rcases List.eq_nil_or_concat M.au with d|⟨e,f,b⟩
 ·left
  refine⟨?_,by simp[d]⟩;unfold dA;rw[if_neg a,d];rfl
 right
 rw[List.concat_eq_append]at b;rw[yg b a];unfold lE;cases g:ig u e f M with
 | ok h =>
  have:=GC g;exact⟨rfl,this.1,this.2,O⟩
 | error k =>
  by_cases c:k=0
  ·simp[c];omega
  simp[c,kC];omega
theorem GD {u:aS} (e:cC u):∀ n:Nat,n<=200->Py u n (runM u n)
 | 0,_=>by
  obtain⟨c,d⟩:=Mj e;exact⟨c,d,by simp[runM,mD],by simp[runM,mD],by simp[runM,mD],by simp[runM,mD,fT]⟩
 | n+1,hn=>by
  have a:=GD e n O;obtain⟨c,d⟩:=CW e a.ok a.link;have hle:=a.le;have o:=a.said;have m:=a.objs;show Py u (n+1) (dA u (runM u n));rcases pO (u:=u) (M:=runM u n)with ⟨g,b⟩|⟨p,q,s,h⟩
  ·rw[g];refine⟨a.ok,a.link,O,λf=>?_,o,m⟩;have i:=a.eq f;have t:=a.ok.steps;have j:(runM u n).au≠[]:=by
    rcases a.ok.fin with c|c|c
    ·exact c.2.1
    ·omega
    omega
   rcases b with b|b|b|b|b
   ·exact absurd f b
   ·omega
   ·omega
   ·omega
   exact absurd b j
  have i:=a.eq h;exact⟨c,d,O,λ_=>O,O,O⟩
theorem sx {u:aS} {x:dc} {L:List Vl} {objs c:List Ob} {f g:bL} {K p:List Int} {j:Bool} {C:List Ob->bL->Prop} (h0:C objs f) (N:∀ i v,C objs {f with locals:=f.locals.set i v}) (s:∀ {f1 f2:bL} {v:Vl} {o:List Ob},C objs f1->cM objs f1 v=.ok (o,f2)->C objs f2)
  (P:∀ {o:List Ob} {g:bL},bt u x L objs f=.ok (o,g)->C o g) (h:eF u x L objs f K=.ok (c,g,p,j)):C c g:=by
 have d:∀ {f1:bL} {v:Vl},C objs f1->dV objs f1 K v=.ok (c,g,p,j)->C c g:=by
  intro f1 v m h;obtain⟨o,M,b,e⟩:=oD h;simp only[Prod.mk.injEq]at e;obtain⟨rfl,rfl,_⟩:=e;have:=s m b;rw[j4 b];exact this
 have a:∀ {J:List Int} {f1:bL} {q:Bool},C objs f1->(Except.ok (objs,f1,J,q):HW)=.ok (c,g,p,j)->C c g:=by
  intro J f1 q m e;simp only[Except.ok.injEq,Prod.mk.injEq]at e;obtain⟨rfl,rfl,_⟩:=e;exact m
 unfold eF at h;simp only at h;by_cases t:x.kind=1
 ·rw[if_pos t]at h;exact d h0 h
 rw[if_neg t]at h;by_cases z:x.kind=2
 ·rw[if_pos z]at h;exact d h0 h
 rw[if_neg z]at h;by_cases B:x.kind=3
 ·rw[if_pos B]at h;exact d h0 h
 rw[if_neg B]at h;by_cases D:x.kind=4
 ·rw[if_pos D]at h;exact a (N _ _) h
 rw[if_neg D]at h;by_cases E:x.kind=5
 ·rw[if_pos E]at h;exact a h0 h
 rw[if_neg E]at h;by_cases F:x.kind=6
 ·rw[if_pos F]at h;split at h
  ·rename_i b;exact d (s h0 b) h
  cases h
 rw[if_neg F]at h;by_cases G:x.kind=7
 ·rw[if_pos G]at h;split at h
  ·exact d h0 h
  cases h
 rw[if_neg G]at h;by_cases H:x.kind=8
 ·rw[if_pos H]at h;exact a h0 h
 rw[if_neg H]at h;by_cases I:x.kind=9
 ·rw[if_pos I]at h;exact a h0 h
 rw[if_neg I]at h;by_cases w:x.kind=10
 ·rw[if_pos w]at h;exact a h0 h
 rw[if_neg w]at h;by_cases y:x.kind=11
 ·rw[if_pos y]at h;exact a h0 h
 rw[if_neg y]at h;by_cases A:x.kind=24
 ·rw[if_pos A]at h;exact a h0 h
 rw[if_neg A]at h;split at h
 ·rename_i Q M b;simp only[Except.ok.injEq,Prod.mk.injEq]at h;obtain⟨rfl,rfl,_⟩:=h;exact P b
 cases h
theorem uS {u:aS} {c n:Int}:∀ {l a:List bL},nr u c n l=some a->∃ b f r k,l=b++f::r/\jk u c f.pc (aY u f.aC).catches=some k/\a = {f with pc:=k.to,stack:=[⟨true,n⟩]}::r
 | [],_,h=>by cases h
 | f::r,a,h=>by
  rw[nr]at h;split at h
  ·rename_i t i;simp only[Option.some.injEq]at h;exact⟨[],f,r,t,rfl,i,h.symm⟩
  obtain⟨b,g,j,k,rfl,d,e⟩:=uS h;exact⟨f::b,g,j,k,rfl,d,e⟩
theorem zR {u:aS} {n:Int} {M:bH} {fs:List bL} {f:bL} {l:List Vl}:bU u n {M with au:=fs++[{f with stack:=l}]}=bU u n {M with au:=fs++[f]}:=by
 rw[mB,mB]
def uT (M:bH):Prop:=∀ f,M.au.head? = some f->f.aC=0
def MH (l b:List bL):Prop:=∀ a,b.head? = some a->∃ f,l.head? = some f/\a.aC=f.aC
theorem MH.refl (l:List bL):MH l l:=λf h=>⟨f,h,rfl⟩
theorem MH.nil (l:List bL):MH l []:=λf h=>by cases h
theorem MH.pre {b d e:List bL} {f g:bL} (h:g.aC=f.aC):MH (b++f::d) (b++g::e):=by
 intro i a;cases b with
 | nil =>
  simp only[List.nil_append,List.head?_cons,Option.some.injEq]at a;subst a;exact⟨f,rfl,h⟩
 | cons c l =>
  simp only[List.cons_append,List.head?_cons,Option.some.injEq]at a;subst a;exact⟨c,rfl,rfl⟩
theorem wN {u:aS} {n:Int} {M:bH}:MH M.au (bU u n M).au:=by
 unfold bU;split
 ·rename_i l c;obtain⟨d,f,r,k,a,_,rfl⟩:=uS c;have b:M.au=r.reverse++f::d.reverse:=by
   have:=congrArg List.reverse a;simpa using this
  show MH M.au (List.reverse (_::r));rw[b,List.reverse_cons];exact MH.pre rfl
 exact MH.nil _
theorem Jd {u:aS} {x:dc} {p:List Vl} {objs e:List Ob} {f g:bL} {j m:List Int} {c:Bool} (h:eF u x p objs f j=.ok (e,g,m,c)):g.aC=f.aC:=by
 have b:∀ {o i:List Ob} {f1 f2:bL} {v:Vl},f1.aC=f.aC->cM o f1 v=.ok (i,f2)->f2.aC=f.aC:=λd h=>by
  unfold cM at h;split at h
  ·simp only[Except.ok.injEq,Prod.mk.injEq]at h;rw[<-h.2];exact d
  cases h
 refine sx (C:=λ_ g=>g.aC=f.aC) rfl (λ_ _=>rfl) (λh a=>b h a) (λa=>?_) h;unfold bt at a;simp only[nq]at a;repeat' split at a
 all_goals first
  | (cases a;done)
  | exact b rfl a
  | (simp only[Except.ok.injEq,Prod.mk.injEq]at a;rw[<-a.2])
theorem MI {u:aS} {fs:List bL} {f:bL} {M M':bH} (h:ig u fs f M=.ok M'):MH (fs++[f]) M'.au:=by
 unfold ig at h;simp only at h;split at h
 ·cases h
 split at h
 ·cases h
 rename_i m rest _;have c:MH (fs++[f]) (fs++[{f with stack:=rest}]):=MH.pre rfl;split at h
 ·unfold eN at h;simp only at h;have b:∀ {to:Int} {X Y:bH},X.au=fs++[{f with stack:=rest}]->eZ u to m X=.ok Y->MH (fs++[f]) Y.au:=λd a=>by
   unfold eZ at a;split at a
   ·cases a
   simp only[Except.ok.injEq]at a;rw[<-a];show MH _ (_++[_]);rw[d,List.append_assoc];exact MH.pre rfl
  split at h
  ·exact b rfl h
  split at h
  ·split at h
   ·cases h
   exact b rfl h
  split at h
  ·unfold lq at h;split at h
   ·simp only[Except.ok.injEq]at h;rw[<-h];exact MH.nil _
   rename_i g i;split at h
   ·simp only[Except.ok.injEq]at h;rw[<-h];obtain⟨o,rfl⟩:=List.getLast?_eq_some_iff.1 i;show MH _ ((o++[g]).dropLast++[_]);rw[List.dropLast_concat,List.append_assoc];exact MH.pre rfl
   cases h
  split at h
  ·split at h
   ·cases h
   simp only[Except.ok.injEq]at h;rw[<-h];rw[zR];exact wN (M:={M with au:=fs++[f]})
  simp only[Except.ok.injEq]at h;rw[<-h];exact c
 split at h
 ·cases h
 rename_i q g s p j;simp only[Except.ok.injEq]at h;subst h;have e:=Jd j;exact MH.pre e
theorem GF (u:aS) (M:bH):MH M.au (dA u M).au:=by
 unfold dA;split
 ·exact MH.refl _
 split
 ·exact MH.refl _
 rename_i f b;obtain⟨c,e⟩:=List.getLast?_eq_some_iff.1 b;split
 ·rename_i a h;show MH M.au a.au;have:=MI h;rw[e,List.dropLast_concat]at this;rw[e];exact this
 split
 ·exact MH.refl _
 exact wN
theorem uT.mh {M:bH} {l:List bL} (h:uT M) (k:MH M.au l):∀ f,l.head? = some f->f.aC=0:=λf a=>by
 obtain⟨g,b,e⟩:=k f a;rw[e];exact h g b
theorem sy (u:aS):∀ n:Nat,uT (runM u n)
 | 0=>λf a=>by
  simp only[runM,mD,List.head?_cons,Option.some.injEq]at a;rw[<-a]
 | n+1=>(sy u n).mh (GF u _)
def ie:bH:=⟨[],[],[],0,0,cE⟩
def zS (u:aS) (a:Int):Prop:=cC u/\0<=a/\a<=200
def wO (u:aS) (a:Int) (R:bH):Prop:=(zS u a->R=runM u a.toNat)/\(¬zS u a->R=ie)
theorem zT (u:aS) (a:Int):∃ R,wO u a R:=by
 by_cases h:zS u a
 ·exact⟨runM u a.toNat,λ_=>rfl,λb=>absurd h b⟩
 exact⟨ie,λc=>absurd c h,λ_=>rfl⟩
theorem pP (h:Heap):eX h [.slice none 0 0,.slice none 0 0,.slice none 0 0,.int .i64 0,.int .i64 0,.bool false,.int .i64 0] ie [] :=
 ⟨_,_,_,[],[],[],rfl,⟨[],[],[],⟨Z,.inl ⟨rfl,rfl,rfl⟩⟩,.nil,rfl⟩,⟨[],[],[],⟨Z,.inl ⟨rfl,rfl,rfl⟩⟩,.nil,rfl⟩,⟨by simp[ie],.inl ⟨rfl,rfl,rfl⟩⟩,rfl⟩
theorem mE.small {u:aS} (c:cC u) {M:bH} (h:mE u M):Small M:=by
 refine⟨by have:=h.len;omega,by have:=h.nf;omega,by have:=h.iS;omega,λo e=>?_,λf d=>?_⟩
 ·rcases(h.objs o e).2 with ⟨_,b⟩|⟨_,b,g⟩
  ·omega
  have:=ec c.1 b;omega
 have a:=h.gh f d;have:=(c.aY a.1).1.2.2.2.2.1;have:=a.2.2.1;have:=a.2.2.2.1;omega
def Je (h:Heap) (M:bH) (v:Value) (h':Heap):Prop:=h.le h'/\∃ a B,v=.agg ⟨a⟩/\eX h' a M B/\Nd B/\∀ b∈B,h b=none
theorem wP {u:aS} {i:Nat} (h:(runM u i).fin≠0):∀ k,runM u (i+k)=runM u i
 | 0=>rfl
 | k+1=>by
  show dA u (runM u (i+k))=_;rw[wP h k];unfold dA;rw[if_pos (.inl h)]
theorem uU (M:List Value) (u:aS) (b:Int) (h:Heap) (K:cZ h M u) (R:bH) (G:wO u b R):bI prog 15 [.agg ⟨M⟩,.int .i64 b] h (Je h R):=by
 have A:=K;obtain⟨ab,P,ad,Y,rfl,hcs,kS,ko,hl2⟩:=K.form;have uf:=rU _ u h A;have bad:¬zS u b->Je h R (.agg #[.slice none 0 0,.slice none 0 0,.slice none 0 0,.int .i64 0,.int .i64 0,.bool false,.int .i64 0]) h:=λy=>by
  rw[G.2 y];exact⟨Heap.le_refl h,_,[],rfl,pP h,λ_=>Z,Z⟩
 have Uv:=G.1;refine bT aB func15 Yw U rfl ?_;conv=>whnf
 refine ax uf ?_;conv=>whnf
 apply aU<;>intro c;all_goals conv=>whnf
 ·exact bad (λC=>c C.1)
 refine ax (de _ _ _ _) ?_;conv=>whnf
 apply aU<;>intro x;all_goals conv=>whnf
 ·exact bad (λC=>x C.2)
 have hP:zS u b:=⟨c,x⟩
 have H:=Uv hP;refine aG (BT _ u h A c) (λae j m=>?_);refine m.2.elim λmc0 f=>f.elim λN f=>?_;have B:=f.1;subst B;refine f.2.1.jv.elim λpo0 a=>a.elim λT a=>a.elim λpf0 a=>a.elim λQ a=>a.elim λps0 a=>a.elim λW a=>?_;subst a;conv=>whnf
 refine eu [1,2,4,5,6] [2,4,5] (λs:Nat × Heap × (Option Addr × Nat) × (Option Addr × Nat) × (Option Addr × Nat) × List Nat=>(s.1:Int)<=b/\h.le s.2.1/\eX s.2.1 (jv s.2.2.1.1 s.2.2.1.2 s.2.2.2.1.1 s.2.2.2.1.2 s.2.2.2.2.1.1 s.2.2.2.2.1.2 (runM u s.1)) (runM u s.1) s.2.2.2.2.2/\Nd s.2.2.2.2.2/\∀ t∈s.2.2.2.2.2,h t=none) (λs=>b.toNat-s.1)
  (λs=>([.v (.int .i64 b),.l 2 0,.l 4 0,.l 5 0,.v (.int .i64 s.1)],
   [some [.slice ab u.aq.length P,.slice ad u.methods.length Y],some [.slice none 0 0,.slice none 0 0,.slice none 0 0,.int .i64 0,.int .i64 0,.bool false,.int .i64 0],some (jv s.2.2.1.1 s.2.2.1.2 s.2.2.2.1.1 s.2.2.2.1.2 s.2.2.2.2.1.1 s.2.2.2.2.1.2 (runM u s.1))],s.2.1))
  (0,j,(po0,T),(pf0,Q),(ps0,W),N) ⟨by simp;omega,m.1,f.2.1,f.2.2⟩ rfl ?_
 rintro⟨i,h2,⟨po,co⟩,⟨pf,cf⟩,⟨ps,cs⟩,D⟩ ⟨hi,hle,own,nd,w⟩;simp only at hi hle own nd w ⊢;unfold jv aE;conv=>whnf
 apply aD<;>intro aa;all_goals conv=>whnf
 ·apply aD<;>intro q;all_goals conv=>whnf
  ·have d:=GD c i O;have Tk:=own.read (d.ok.small c);have e:∃ p o,(runM u i).au=p++[o]:=by
    rcases List.eq_nil_or_concat (runM u i).au with v|⟨gs,gl,v⟩
    ·rcases d.ok.fin with j|j|j
     ·exact absurd v j.2.1
     ·omega
     omega
    exact⟨gs,gl,by simpa using v⟩
   refine e.elim λp e=>e.elim λo e=>?_;have hsu:lE u p o (runM u i)=runM u (i+1):=by
    refine(yg e ?_).symm;have:=d.eq q;have:=d.said;have:=d.objs;omega
   have J:=wM _ _ u (runM u i) h2 p o Tk (A.le hle) c d.ok e q;rw[hsu]at J;refine aG J (λae F m=>?_);refine m.2.elim λPv g=>g.elim λE g=>?_;have B:=g.1;subst B;have L:eX F Pv (runM u (i+1)) E:=g.2.1;refine L.jv.elim λpo3 a=>a.elim λV a=>a.elim λpf3 a=>a.elim λS a=>a.elim λps3 a=>a.elim λX a=>?_;subst a;conv=>whnf
   refine av ?_;conv=>whnf
   exact cT (i+1,F,(po3,V),(pf3,S),(ps3,X),E) ⟨by simp only;omega,Heap.le_trans hle m.1,L,g.2.2.1,λt y=>eL hle (g.2.2.2 t y)⟩ (by simp only;omega) rfl
  have I:=wP q (b.toNat-i);have z:i+(b.toNat-i)=b.toNat:=by omega
  rw[z]at I;rw[H,I];exact⟨hle,_,D,rfl,own,nd,w⟩
 have z:i=b.toNat:=by omega
 subst z;rw[H];exact⟨hle,_,D,rfl,own,nd,w⟩
theorem j5 {h:Heap} {b c:Nat} {l:List Int} {rest:List Value} {t:TypeId} {fz:Nat × Nat} (d:h b=some (.cells (l.map (Value.int .i64)++rest).toArray t fz)) (j:l.length<=140737488351232) (f:l.length<=c) (g:∀ t∈l,cH t):cR h (.slice (some ⟨b,0,none⟩) l.length c) l:=by
 refine⟨j,_,c,rfl,f,.inr ⟨b,0,rfl,λi x m=>?_⟩⟩;obtain⟨a,rfl⟩:=List.getElem?_eq_some_iff.1 m;refine⟨[.int .i64 l[i]],?_,rfl,g _ (List.getElem_mem a)⟩;have e:rd h b (0+i*1)=some (.int .i64 l[i]):=bF d (by rw[List.getElem?_append_left (by simp;omega)];simp[a]);simp only[dQ,e]
theorem eC {h:Heap} {p:Option Addr} {n c:Nat} {l:List Int} {B:List Nat} (i:dI h (.slice p n c) l B) (f:l.length<=140737488351232) (e:∀ t∈l,cH t):n=l.length/\cR h (.slice p l.length c) l:=by
 obtain⟨_,⟨a,g,_⟩|⟨j,m,rest,t,a,d,b,_,_⟩⟩:=i
 ·simp only[Value.slice.injEq]at a;obtain⟨rfl,rfl,rfl⟩:=a;have:l=[]:=by simpa using g
  subst this;exact⟨rfl,Z,none,0,rfl,Z,.inl rfl⟩
 simp only[Value.slice.injEq]at a;obtain⟨rfl,rfl,rfl⟩:=a;rw[dy]at b;refine⟨Z,j5 b f (by simpa using d) e⟩
theorem fO (h:Heap) (p:Option Addr) (c:Nat):cR h (.slice p 0 c) []:=⟨Z,p,c,rfl,Z,.inl rfl⟩
theorem D6 {g:TypeId} {h e:Heap} {b:Nat} {t:TypeId} {l:List Int} {m:Nat} {K:Value->Heap->Prop} (q:h.le e) (j:e b=some (.cells #[] t (0,0))) (i:h b=none) (u:m=l.length) (v:l.length<=1000000) (o:∀ t∈l,cH t)
  (p:∀ d c a B',h.le a->dI a (.slice d l.length c) l B'->cR a (.slice d l.length c) l->(∀ b∈B',h b=none)->K (.slice d l.length c) a):App 8 1 [.int .i64 0] g e (some ⟨b,0,none⟩) 0 0 m (l.map (Value.int .i64)) K:=by
 refine wJ q j i (dy l).symm (by rw[u];simp) (by simpa using v) ?_;intro d c a B' w f x;have s:(l.map bP).length=l.length:=by simp
 rw[s]at f ⊢;exact p d c a B' w f (eC f O o).2 x
theorem zU {h h':Heap} (b:h.le h') {p:Option Addr} {n c:Nat} {l:List Int} {K:List Value->Prop} (d:cR h (.slice p n c) l) (a:K (l.map (Value.int .i64))):No h' p (n*1) K:=nh (d.le b) a
theorem pQ {l:List Int} {h:Heap} {v:Value} (e:cR h v l):∀ t∈l,cH t:=by
 obtain⟨_,p,j,rfl,_,c⟩:=e;rcases c with rfl|⟨g,m,_,f⟩
 ·intro t a;cases a
 intro t a;obtain⟨i,d,rfl⟩:=List.mem_iff_getElem.1 a;obtain⟨o,_,_,b⟩:=f i l[i] (by simp[d]);exact b
theorem cR.at {h:Heap} {p:Option Addr} {n c:Nat} {l:List Int} (g:cR h (.slice p n c) l) {i:Nat} (e:i < l.length):∃ b off,p=some ⟨b,off,none⟩/\rd h b (off+i*1)=some (.int .i64 l[i]):=by
 obtain⟨b,off,j,f,a,d,_⟩:=g.get e;subst d;exact⟨b,off,f,by simpa using aM a (i:=0) rfl⟩
theorem cR.first {h:Heap} {p:Option Addr} {n c:Nat} {l:List Int} (g:cR h (.slice p n c) l) {m:Nat} (u:m<=l.length):cR h (.slice p m c) (l.take m):=by
 obtain⟨s,v,q,b,t,e⟩:=g;simp only[Value.slice.injEq]at b;obtain⟨rfl,rfl,rfl⟩:=b;have f:(l.take m).length=m:=by simp;omega
 refine⟨O,p,c,by rw[f],O,?_⟩;rcases e with rfl|⟨d,o,rfl,i⟩
 ·exact .inl Z
 refine .inr ⟨d,o,rfl,λj x a=>i j x ?_⟩;rw[List.getElem?_take]at a;split at a
 ·exact a
 cases a
def j6:dF:=⟨false,[],[]⟩
theorem iB (h:Heap):bI prog 35 [] h λv h'=>h.le h'/\∃ a b,v=.agg #[.bool false,.slice (some ⟨a,0,none⟩) 0 0,.slice (some ⟨b,0,none⟩) 0 0]:=by
 refine bT aB func35 YN U rfl ?_;conv=>whnf
 refine dn [] rfl (λa j o e c g=>?_);conv=>whnf
 refine dn [] rfl (λb m p f d i=>?_);conv=>whnf
 exact⟨Heap.le_trans c d,a,b,rfl⟩
structure oX (h h':Heap) (v1:Value) (l1:List Int) (B1:List Nat) (v2:Value) (l2:List Int) (B2:List Nat):Prop where
 le:h.le h'
 o1:dI h' v1 l1 B1
 o2:dI h' v2 l2 B2
 nd:Nd (B1++B2)
 fr:∀ b∈B1++B2,h b=none
theorem oX.start (h:Heap):oX h h (.slice none 0 0) [] [] (.slice none 0 0) [] []:=⟨Heap.le_refl h,⟨Z,.inl ⟨rfl,rfl,rfl⟩⟩,⟨Z,.inl ⟨rfl,rfl,rfl⟩⟩,λ_=>Z,Z⟩
theorem oX.swap {h h':Heap} {d e:Value} {b c:List Int} {B1 a:List Nat} (s:oX h h' d b B1 e c a):oX h h' e c a d b B1:=⟨s.le,s.o2,s.o1,s.nd.perm λi=>by simp only[List.count_append];omega,λf g=>s.fr f (by simp at g ⊢;grind)⟩
theorem oX.GG {h h':Heap} {i:Value} {g:List Int} {d:List Nat} {t:TypeId} {vs:List Value} {K:Nat->Heap->Prop} (s:oX h h' (.slice none 0 0) [] [] i g d) (p:vs=[]) (m:∀ b c,oX h c (.slice (some ⟨b,0,none⟩) 0 0) [] [b] i g d->K b c):EF h' vs t K:=by
 subst p;refine dn [] rfl (λb c e u l j=>m b c ⟨Heap.le_trans s.le l,dL j,s.o2.aJ (cD.of_le l _),?_,λx a=>?_⟩)
 ·refine Nd.two (λq=>by simp only[List.count_cons,List.count_nil];split<;>omega) s.o2.nd (λx a o=>?_);rw[List.mem_singleton.1 o]at a;obtain⟨v,f⟩:=s.o2.in b a;rw[e]at f;cases f
 rcases List.mem_append.1 a with a|a
 ·rw[List.mem_singleton.1 a];exact eL s.le e
 exact s.fr x (by simp[a])
theorem oX.Uw {h h':Heap} {d:Value} {c:List Int} {B1:List Nat} {t:TypeId} {vs:List Value} {K:Nat->Heap->Prop} (s:oX h h' d c B1 (.slice none 0 0) [] []) (f:vs=[]) (e:∀ b a,oX h a d c B1 (.slice (some ⟨b,0,none⟩) 0 0) [] [b]->K b a):EF h' vs t K :=
 s.swap.GG f (λb a g=>e b a g.swap)
theorem oX.zV {h h':Heap} {p:Option Addr} {c m:Nat} {l v:List Int} {B1 o:List Nat} {w:Value} {x:TypeId} {K:Value->Heap->Prop} (s:oX h h' (.slice p 0 c) [] B1 w v o) (A:m=l.length) (u:l.length<=1000000)
  (y:∀ j g i B',oX h i (.slice j l.length g) l B' w v o->K (.slice j l.length g) i):App 8 1 [.int .i64 0] x h' p 0 c m (l.map (Value.int .i64)) K:=by
 refine cX (h0:=h) (xs:=[]) (ys:=l.map bP) (B:=B1) s.o1 (λb a=>s.fr b (by simp[a])) s.le (dy l).symm (by rw[A];simp) (λJ e=>by obtain⟨I,_,rfl⟩:=List.mem_map.1 e;rfl) (di l) rfl (by simp at u ⊢;omega) (by simp at u ⊢;omega) ?_;intro H i B' C f D E F;rw[List.nil_append]at f;obtain⟨j,g,rfl,_⟩:=bW.form f;have z:(l.map bP).length=l.length:=by simp
 rw[z]at f ⊢;have t:∀ b∈o,b ∉ B1:=λb a q=>by
  have:=s.nd b;have:=List.count_pos_iff.2 a;have:=List.count_pos_iff.2 q;simp only[List.count_append]at *;omega
 refine y j g i B' ⟨C,f,s.o2.aJ λb a G d=>by rw[E b (t b a) (by rw[d];simp)];exact d,Nd.two f.nd s.o2.nd (λb a q=>?_),λb a=>?_⟩
 ·rcases F b q with e|e
  ·exact t b a e
  obtain⟨G,d⟩:=s.o2.in b a;rw[e]at d;cases d
 rcases List.mem_append.1 a with a|a
 ·exact D b a
 exact s.fr b (by simp[a])
theorem oX.BU {h h':Heap} {p:Option Addr} {c m:Nat} {l e:List Int} {B1 g:List Nat} {f:Value} {i:TypeId} {K:Value->Heap->Prop} (s:oX h h' f e B1 (.slice p 0 c) [] g) (o:m=l.length) (q:l.length<=1000000)
  (j:∀ d a b B',oX h b f e B1 (.slice d l.length a) l B'->K (.slice d l.length a) b):App 8 1 [.int .i64 0] i h' p 0 c m (l.map (Value.int .i64)) K :=
 s.swap.zV o q (λd a b B' t=>j d a b B' t.swap)
theorem sA (w:Bool) (lp p:Option Addr) (q o:Nat) (b a:List Int) (h:Heap) (z:cR h (.slice lp b.length q) b) (A:cR h (.slice p a.length o) a) (g:b.length<=1000000) (i:a.length<=1000000) :
  bI prog 127 [.agg #[.bool w,.slice lp b.length q,.slice p a.length o]] h λv h'=>∃ t j u m B1 x,v=.agg #[.bool w,.slice t b.length j,.slice u a.length m]/\oX h h' (.slice t b.length j) b B1 (.slice u a.length m) a x:=by
 have s:=oX.start h;refine bT aB func127 RY U rfl ?_;conv=>whnf
 repeat' ((first|exact trivial|exact⟨_,_,_,_,_,_,rfl,s⟩|exact⟨_,_,_,_,_,_,rfl,s.swap⟩|apply And.intro|refine zU s.le z ?_|refine zU s.le A ?_|refine s.zV (l:=b) rfl g (λf e c d s=>?_)|refine s.BU (l:=b) rfl g (λf e c d s=>?_)|refine s.zV (l:=a) rfl i (λf e c d s=>?_)|refine s.BU (l:=a) rfl i (λf e c d s=>?_)|refine s.GG rfl (λy c s=>?_)|refine s.Uw rfl (λy c s=>?_))<;>conv=>whnf)
def gq (cs:List dH):List Int->List Int->Bool
 | a::l,b::r=>gU cs a b&&gq cs l r
 | _,_=>true
def qS (cs:List dH) (cA types:List Int):Bool:=decide (types.length<=cA.length)&&gq cs (cA.drop (cA.length-types.length)) types
def fC (cs:List dH) (s:dF) (types:List Int):Option dF:=if qS cs s.stack types=true then some {s with stack:=s.stack.take (s.stack.length-types.length)}else none
def gr (r:Option dF) (t:Int):Option dF:=match r with
 | none=>none
 | some s=>if t=0\/4<=s.stack.length then none else some {s with stack:=s.stack++[t]}
def qT (h:Heap) (v:Value) (r:Option dF):Prop:=match r with
 | none=>∃ e c f a d g b,v=.tuple #[.agg #[.bool e,.slice c f a,.slice d g b],.bool false]
 | some s=>∃ c a d b,v=.tuple #[.agg #[.bool s.told,.slice c s.locals.length a,.slice d s.stack.length b],.bool true]/\cR h (.slice c s.locals.length a) s.locals/\cR h (.slice d s.stack.length b) s.stack
theorem pR {cs:List dH} {l r:List Int} {i:Nat} (a:i < l.length) (b:i < r.length):gq cs (l.drop i) (r.drop i)=(gU cs l[i] r[i]&&gq cs (l.drop (i+1)) (r.drop (i+1))):=by
 rw[List.drop_eq_getElem_cons a,List.drop_eq_getElem_cons b,gq]
theorem zW (p:Option Addr) (n c:Nat) (cs:List dH) (s:dF) (lp b tp:Option Addr) (e a y:Nat) (types:List Int) (h:Heap) (N:eD h (.slice p n c) cs) (ok:cn cs) (q:cR h (.slice lp s.locals.length e) s.locals) (g:cR h (.slice b s.stack.length a) s.stack) (E:cR h (.slice tp types.length y) types)
  (F:∀ t∈s.stack,t < 8+cs.length) (W:∀ t∈types,t < 8+cs.length) :
  bI prog 158 [.slice p n c,.agg #[.bool s.told,.slice lp s.locals.length e,.slice b s.stack.length a],.slice tp types.length y] h λv h'=>h'=h/\qT h v (fC cs s types):=by
 obtain⟨d,f,cA⟩:=s;simp only at q g F ⊢;have l1:=q.1;have l2:=g.1;have l3:=E.1;have z:cA.length<=a:=by
  obtain⟨_,_,A,z,_⟩:=g.len;simp only[Value.slice.injEq,true_and]at A;obtain⟨_,rfl⟩:=A;exact z
 have K:fC cs ⟨d,f,cA⟩ types=if qS cs cA types=true then some ⟨d,f,cA.take (cA.length-types.length)⟩else none:=rfl
 rw[K];have x:qS cs cA types=false->qT h (.tuple #[.agg #[.bool d,.slice lp f.length e,.slice b cA.length a],.bool false]) (if qS cs cA types=true then some ⟨d,f,cA.take (cA.length-types.length)⟩else none):=λX=>by
  rw[if_neg (by rw[X];simp)];exact⟨d,_,_,_,_,_,_,rfl⟩
 refine bT aB func158 Sm U rfl ?_;conv=>whnf
 refine av ?_;conv=>whnf
 apply aD<;>intro L;all_goals conv=>whnf
 ·exact⟨rfl,x (by simp[qS];omega)⟩
 obtain⟨m,w⟩:∃ m:Nat,m=cA.length-types.length:=⟨_,rfl⟩
 have T:(cA.length:Int)-types.length=m:=by omega
 rw[<-w];rw[T];rw[<-w]at x;have V:qS cs cA types=gq cs ((cA.drop m).drop 0) (types.drop 0):=by
  unfold qS;rw[<-w];simp;omega
 refine eu [0,2,4,6,8,9] [4,6] (λi:Nat=>i<=types.length/\qS cs cA types=gq cs ((cA.drop m).drop i) (types.drop i)) (λi=>types.length-i)
  (λi=>([.v (.slice p n c),.v (.slice tp types.length y),.l 4 0,.l 6 0,.v (.int .i64 m),.v (.int .i64 i)],[some [.bool d,.slice lp f.length e,.slice b cA.length a],some [.bool false,.slice none 0 0,.slice none 0 0]],h)) 0 ⟨O,V⟩ rfl ?_
 rintro i ⟨hi,j⟩;conv=>whnf
 apply aD<;>intro M;all_goals conv=>whnf
 ·have u:i < types.length:=by omega
  have B:m+i < cA.length:=by omega
  have f1:=g.at B;have f2:=E.at u;obtain⟨J,o1,q1,G⟩:=f1;obtain⟨b2,o2,q2,I⟩:=f2;have Q:((m:Int)+i).toNat=m+i:=by omega
  have H:rd h J (o1+((m:Int)+i).toNat*1)=some (.int .i64 cA[m+i]):=by rw[Q];exact G
  have S:=rZ p n c cs cA[m+i] types[i] h N ok (F _ (List.getElem_mem B)) (W _ (List.getElem_mem u));have D:=pR (cs:=cs) (l:=cA.drop m) (r:=types) (i:=i) (by simp;omega) u;have P:(cA.drop m)[i]'(by simp;omega)=cA[m+i]:=by simp
  rw[P]at D;rw[D]at j;repeat' ((first|refine av ?_|refine ay ?_|refine aP q1 ?_|refine aP q2 ?_|refine ld H ?_|refine ld I ?_|refine aO S ?_)<;>conv=>whnf)
  apply cq<;>intro o;all_goals conv=>whnf
  ·exact⟨rfl,x (by rw[j,o];rfl)⟩
  refine av ?_;conv=>whnf
  refine cT (i+1) ⟨O,?_⟩ O rfl;rw[j,o];rfl
 have R:i=types.length:=by omega
 subst R;have Y:qS cs cA types=true:=by rw[j,List.drop_length];unfold gq;split<;>simp_all
 refine ay ?_;conv=>whnf
 rw[if_pos Y];have C:(cA.take m).length=m:=by simp;omega
 refine⟨rfl,lp,e,b,a,?_,q,?_⟩
 ·show _=Value.tuple #[.agg #[.bool d,.slice lp f.length e,.slice b (cA.take m).length a],.bool true];rw[C];rfl
 show cR h (.slice b (cA.take m).length a) (cA.take m);rw[C];exact g.first O
theorem wQ (a:Bool) (w y:Option Addr) (q d u f:Nat) (b:Bool) (r:Option dF) (t:Int) (h:Heap) (j:qT h (.tuple #[.agg #[.bool a,.slice w q d,.slice y u f],.bool b]) r) (L:cH t) (K:∀ s,r=some s->s.stack.length<=1000) :
  bI prog 188 [.agg #[.bool a,.slice w q d,.slice y u f],.int .i64 t,.bool b] h λv h'=>h.le h'/\qT h' v (gr r t):=by
 cases r with
 | none =>
  obtain⟨_,_,_,_,_,_,_,e⟩:=j;simp only[Value.tuple.injEq,Array.mk.injEq,List.cons.injEq,Value.agg.injEq,Value.bool.injEq,Value.slice.injEq,and_true]at e;obtain⟨_,rfl⟩:=e;refine bT aB func188 LK Ke rfl ?_;conv=>whnf
  exact⟨Heap.le_refl h,_,_,_,_,_,_,_,rfl⟩
 | some s =>
  obtain⟨q1,d1,q2,d2,e,E,i⟩:=j;simp only[Value.tuple.injEq,Array.mk.injEq,List.cons.injEq,Value.agg.injEq,Value.bool.injEq,Value.slice.injEq,and_true]at e;obtain⟨⟨rfl,⟨rfl,rfl,rfl⟩,⟨rfl,rfl,rfl⟩⟩,rfl⟩:=e;have DZ:=K s rfl;have i2:=pQ i;have e:gr (some s) t=if t=0\/4<=s.stack.length then none else some {s with stack:=s.stack++[t]}:=rfl
  rw[e];refine bT aB func188 LK Ke rfl ?_;conv=>whnf
  apply aD<;>intro g;all_goals conv=>whnf
  ·rw[if_pos (.inl g)];exact⟨Heap.le_refl h,_,_,_,_,_,_,_,rfl⟩
  apply aD<;>intro C;all_goals conv=>whnf
  ·rw[if_pos (.inr O)];exact⟨Heap.le_refl h,_,_,_,_,_,_,_,rfl⟩
  rw[if_neg O];refine dn [] rfl (λT Y G X p D=>?_);conv=>whnf
  refine zU p i ?_;conv=>whnf
  refine D6 p D G rfl O i2 (λp4 V h4 z N Q r4 P=>?_);conv=>whnf
  have hlm:(s.stack.map bP).length=s.stack.length:=by simp
  refine cX (h0:=h) (xs:=s.stack.map bP) (ys:=[bP t]) (B:=z) Q P N rfl rfl (by simp[bP]) rfl rfl (by simp;omega) (by simp;omega) ?_;intro S F A m M k3 k4 k5;have o:dI F S (s.stack++[t]) A:=by unfold dI;rw[List.map_append];exact M
  have H:=o.form;obtain⟨p6,W,rfl,_⟩:=H;have I:∀ x∈s.stack++[t],cH x:=λx c=>by
   simp only[List.mem_append,List.mem_singleton]at c;rcases c with c|rfl
   ·exact i2 x c
   exact L
  have J:((s.stack++[t]).map bP).length=(s.stack++[t]).length:=by simp
  have R:=(eC o (by simp;omega) I).2;rw[J];conv=>whnf
  exact⟨m,_,_,_,_,rfl,E.le m,R⟩
theorem D7 (k:Int) (h:Heap):Pure prog 189 [.int .i64 k] h (.tuple #[.int .i64 (if k=0 then 3 else 4),.int .i64 (if k=0 then 1 else 8)]):=by
 refine fD aB func189 SO U rfl ?_;conv=>whnf
 apply aD<;>intro g;all_goals conv=>whnf
 ·rw[if_pos g,if_pos g];exact⟨rfl,rfl⟩
 rw[if_neg g,if_neg g];exact⟨rfl,rfl⟩
def mH (cs:List dH) (i:dc) (s:dF):Option dF :=
 if i.kind=1 then gr (some s) 1
 else if i.kind=2 then gr (some s) 2
 else if i.kind=3 then gr (some s) (s.locals.getD i.a.toNat 0)
 else if i.kind=4 then (match s.stack.getLast? with
  | none=>none
  | some t=>some {s with locals:=s.locals.set i.a.toNat t,stack:=s.stack.dropLast})
 else if i.kind=5 then fC cs s [0]
 else if i.kind=6 then (match s.stack.getLast? with
  | none=>none
  | some t=>gr (some s) t)
 else if i.kind=7 then gr (fC cs s [1,1]) 1
 else if i.kind=8\/i.kind=9 then fC cs s [1,1]
 else if i.kind=10 then fC cs s [8]
 else if i.kind=24 then fC cs s [1]
 else if i.kind=23 then fC cs s [9]
 else some s
theorem qT.form {h:Heap} {v:Value} {r:Option dF} (m:qT h v r):∃ a e i c f j d b,v=.tuple #[.agg #[.bool a,.slice e i c,.slice f j d],.bool b]:=by
 cases r with
 | none=>obtain⟨a,e,i,c,f,j,d,g⟩:=m;exact⟨a,e,i,c,f,j,d,false,g⟩
 | some s=>obtain⟨e,c,f,d,g,_⟩:=m;exact⟨_,_,_,_,_,_,_,_,g⟩
theorem GH {K:Value->Heap->Prop} {E:List PanicEntry->Heap->Prop} {p:Option Addr} {n c:Nat} {cs:List dH} {s:dF} {lp o tp:Option Addr} {q m u w:Nat} {types:List Int} {h:Heap} (A:eD h (.slice p n c) cs) (ok:cn cs) (x:cR h (.slice lp s.locals.length q) s.locals) (y:cR h (.slice o s.stack.length m) s.stack) (C:w=types.length) (D:cR h (.slice tp types.length u) types)
  (F:∀ t∈s.stack,t < 8+cs.length) (G:∀ t∈types,t < 8+cs.length) (z:∀ a i f d j g e b,qT h (.tuple #[.agg #[.bool a,.slice i f d,.slice j g e],.bool b]) (fC cs s types)->K (.tuple #[.agg #[.bool a,.slice i f d,.slice j g e],.bool b]) h) :
  Vc.Call prog 158 [.slice p n c,.agg #[.bool s.told,.slice lp s.locals.length q,.slice o s.stack.length m],.slice tp w u] h K E:=by
 subst C;refine aG (zW p n c cs s lp o tp q m u types h A ok x y D F G) (λI H B=>?_);obtain⟨rfl,v⟩:=B;obtain⟨a,i,f,d,j,g,e,b,rfl⟩:=v.form;exact z a i f d j g e b v
theorem mI {K:Value->Heap->Prop} {E:List PanicEntry->Heap->Prop} {a:Bool} {g i:Option Addr} {e c f d:Nat} {b:Bool} {r:Option dF} {t:Int} {h:Heap} (q:qT h (.tuple #[.agg #[.bool a,.slice g e c,.slice i f d],.bool b]) r) (u:cH t) (j:∀ s,r=some s->s.stack.length<=1000)
  (m:∀ h' a g e c i f d b,h.le h'->qT h' (.tuple #[.agg #[.bool a,.slice g e c,.slice i f d],.bool b]) (gr r t)->K (.tuple #[.agg #[.bool a,.slice g e c,.slice i f d],.bool b]) h') :
  Vc.Call prog 188 [.agg #[.bool a,.slice g e c,.slice i f d],.int .i64 t,.bool b] h K E:=by
 refine aG (wQ a g i e c f d b r t h q u j) (λv h' o=>?_);obtain⟨p,j⟩:=o;obtain⟨a,g,e,c,i,f,d,b,rfl⟩:=j.form;exact m h' a g e c i f d b p j
theorem BV {K:Value->Heap->Prop} {E:List PanicEntry->Heap->Prop} {p:Option Addr} {n c:Nat} {cs:List dH} {s:dF} {lp o tp:Option Addr} {q m u w:Nat} {types:List Int} {h:Heap} (A:eD h (.slice p n c) cs) (ok:cn cs) (x:cR h (.slice lp s.locals.length q) s.locals) (y:cR h (.slice o s.stack.length m) s.stack) (C:w=types.length) (D:cR h (.slice tp types.length u) types)
  (F:∀ t∈s.stack,t < 8+cs.length) (G:∀ t∈types,t < 8+cs.length) (z:∀ a i f d j g e b,qT h (.tuple #[.agg #[.bool a,.slice i f d,.slice j g e],.bool b]) (fC cs s types)->K (.tuple #[.agg #[.bool a,.slice i f d,.slice j g e],.bool b]) h) :
  fE prog 158 [.slice p n c,.agg #[.bool s.told,.slice lp s.locals.length q,.slice o s.stack.length m],.slice tp w u] h K E:=by
 subst C;refine cO (zW p n c cs s lp o tp q m u types h A ok x y D F G) (λI H B=>?_);obtain⟨rfl,v⟩:=B;obtain⟨a,i,f,d,j,g,e,b,rfl⟩:=v.form;exact⟨Heap.le_refl _,z a i f d j g e b v⟩
theorem qU {K:Value->Heap->Prop} {E:List PanicEntry->Heap->Prop} {a:Bool} {g i:Option Addr} {e c f d:Nat} {b:Bool} {r:Option dF} {t:Int} {h:Heap} (q:qT h (.tuple #[.agg #[.bool a,.slice g e c,.slice i f d],.bool b]) r) (u:cH t) (j:∀ s,r=some s->s.stack.length<=1000)
  (o:∀ h' a g e c i f d b,h.le h'->qT h' (.tuple #[.agg #[.bool a,.slice g e c,.slice i f d],.bool b]) (gr r t)->K (.tuple #[.agg #[.bool a,.slice g e c,.slice i f d],.bool b]) h') :
  fE prog 188 [.agg #[.bool a,.slice g e c,.slice i f d],.int .i64 t,.bool b] h K E:=by
 refine cO (wQ a g i e c f d b r t h q u j) (λv h' p=>?_);obtain⟨m,j⟩:=p;obtain⟨a,g,e,c,i,f,d,b,rfl⟩:=j.form;exact⟨m,o h' a g e c i f d b m j⟩
theorem GI {cs:List dH} {s r:dF} {types:List Int} (h:fC cs s types=some r):r.stack.length<=s.stack.length/\r.locals=s.locals/\r.told=s.told:=by
 unfold fC at h;split at h
 ·simp only[Option.some.injEq]at h;subst h;simp<;>omega
 cases h
def oN (h:Heap) (s:dF) (lp b:Option Addr) (c a:Nat):Prop:=cR h (.slice lp s.locals.length c) s.locals/\cR h (.slice b s.stack.length a) s.stack
theorem oN.le {h h':Heap} {s:dF} {lp d:Option Addr} {e c:Nat} (b:h.le h') (a:oN h s lp d e c):oN h' s lp d e c:=⟨a.1.le b,a.2.le b⟩
theorem oN.out {h:Heap} {s:dF} {lp b:Option Addr} {c a:Nat} (d:oN h s lp b c a):qT h (.tuple #[.agg #[.bool s.told,.slice lp s.locals.length c,.slice b s.stack.length a],.bool true]) (some s):=⟨lp,c,b,a,rfl,d.1,d.2⟩
theorem qV {h:Heap} {b:Nat} {types:List Int} {t:TypeId} (a:h b=some (.cells (types.map (Value.int .i64)).toArray t (0,0))) (e:types.length<=1000) (c:∀ x∈types,0<=x/\x<=1000):cR h (.slice (some ⟨b,0,none⟩) types.length types.length) types :=
 j5 (rest:=[]) (by rw[List.append_nil];exact a) O (Nat.le_refl _) (λx d=>by have:=c x d;unfold cH;omega)
theorem fX {cs:List dH} {s:dF} {types:List Int} (b:s.stack.length<=1000):∀ r,fC cs s types=some r->r.stack.length<=1000:=λr a=>by have:=GI a;omega
theorem BW (p:Option Addr) (n c:Nat) (cs:List dH) (i a b:Int) (s:dF) (lp K:Option Addr) (F E:Nat) (B1 T:List Nat) (h0 h:Heap) (hcs:eD h (.slice p n c) cs) (ok:cn cs) (P:oX h0 h (.slice lp s.locals.length F) s.locals B1 (.slice K s.stack.length E) s.stack T) (A:oN h s lp K F E)
  (hv:∀ t∈s.stack,t < 8+cs.length) (vT:i=3\/i=4->0<=a/\a < s.locals.length) (ko:s.locals.length<=1000) (N:s.stack.length<=1000) :
  bI prog 161 [.slice p n c,.agg #[.int .i64 i,.int .i64 a,.int .i64 b],.agg #[.bool s.told,.slice lp s.locals.length F,.slice K s.stack.length E]] h λv h'=>h0.le h'/\qT h' v (mH cs ⟨i,a,b⟩ s):=by
 have hle:=P.le;have H7:=ok.1;have i2:=pQ A.2;have i1:=pQ A.1;have ur:s.stack.length<=E:=by
  obtain⟨_,_,he,ur,_⟩:=A.2.len;simp only[Value.slice.injEq,true_and]at he;obtain⟨_,rfl⟩:=he;exact ur
 have G:∀(types:List Int),types.length<=1000->(∀ D∈types,0<=D/\D < 10)->∀(e:Heap) (Y:Nat) (ty:TypeId) (V:Value->Heap->Prop) (aa:List PanicEntry->Heap->Prop) (S:Nat),h.le e->e Y=some (.cells (types.map (Value.int .i64)).toArray ty (0,0))->S=types.length ->
   (∀ a y w q z x u b,qT e (.tuple #[.agg #[.bool a,.slice y w q,.slice z x u],.bool b]) (fC cs s types)->V (.tuple #[.agg #[.bool a,.slice y w q,.slice z x u],.bool b]) e) ->
   Vc.Call prog 158 [.slice p n c,.agg #[.bool s.told,.slice lp s.locals.length F,.slice K s.stack.length E],.slice (some ⟨Y,0,none⟩) S S] e V aa:=by
  intro types hl C e Y ty V aa S d j g hK;subst g;exact GH (hcs.le d (λ_ _ C=>C.le d)) ok (A.1.le d) (A.2.le d) rfl (qV j hl (λD Ux=>by have:=C D Ux;omega)) hv (λD Ux=>by have:=C D Ux;omega) hK
 refine bT aB func161 So U rfl ?_;conv=>whnf
 by_cases k1:i=1
 ·subst k1;conv=>whnf
  refine mI A.out (by unfold cH;omega) (λr B=>by simp only[Option.some.injEq]at B;subst B;exact N) (λe a y w q z x u b d f=>?_);conv=>whnf
  exact⟨Heap.le_trans hle d,f⟩
 refine cx k1 ?_;conv=>whnf
 by_cases k2:i=2
 ·subst k2;conv=>whnf
  refine mI A.out (by unfold cH;omega) (λr B=>by simp only[Option.some.injEq]at B;subst B;exact N) (λe a y w q z x u b d f=>?_);conv=>whnf
  exact⟨Heap.le_trans hle d,f⟩
 refine cx k2 ?_;conv=>whnf
 by_cases k3:i=3
 ·subst k3;have ha:=vT (.inl rfl);have M:a.toNat < s.locals.length:=by omega
  have f1:=A.1.at M;obtain⟨o,o1,q1,a1⟩:=f1;have Pz:s.locals.getD a.toNat 0=s.locals[a.toNat]:=by simp[M]
  have HU:=i1 _ (List.getElem_mem M);rw[<-Pz]at a1 HU;conv=>whnf
  repeat' ((first|exact trivial|apply And.intro|refine ay ?_|refine aP q1 ?_|refine ld a1 ?_|refine qU A.out HU (λr B=>by simp only[Option.some.injEq]at B;subst B;exact N) (λe a y w q z x u b d f=>?_))<;>conv=>whnf)
  all_goals first|exact Heap.le_trans hle d|exact f
 refine cx k3 ?_;conv=>whnf
 by_cases k4:i=4
 ·subst k4;have e4:mH cs ⟨4,a,b⟩ s=(match s.stack.getLast? with
   | none=>none
   | some t=>some {s with locals:=s.locals.set a.toNat t,stack:=s.stack.dropLast}):=rfl
  rw[e4];have ha:=vT (.inr rfl);conv=>whnf
  rcases List.eq_nil_or_concat s.stack with g|⟨l,t,g⟩
  ·refine eR (by rw[g];rfl) ?_;conv=>whnf
   refine⟨hle,?_⟩;rw[g];exact⟨_,_,_,_,_,_,_,rfl⟩
  rw[List.concat_eq_append]at g;have hlk:s.stack.length=l.length+1:=by rw[g];simp
  have NK:l.length < s.stack.length:=by omega
  have f2:=A.2.at NK;obtain⟨X,o2,q2,L⟩:=f2;have NI:s.stack[l.length]=t:=by simp[g]
  rw[NI]at L;have R:((s.stack.length:Int)-1).toNat=l.length:=by omega
  have W:rd h X (o2+((s.stack.length:Int)-1).toNat*1)=some (.int .i64 t):=by rw[R];exact L
  have M:a.toNat < s.locals.length:=by omega
  have CZ:s.locals=s.locals.take a.toNat++s.locals[a.toNat]::s.locals.drop (a.toNat+1):=by simp
  have Uy:bW 1 h (.slice lp s.locals.length F) ((s.locals.take a.toNat).map bP++bP s.locals[a.toNat]::(s.locals.drop (a.toNat+1)).map bP) B1:=by
   have:=P.o1;unfold dI at this;rw[show s.locals.map bP=(s.locals.take a.toNat).map bP++bP s.locals[a.toNat]::(s.locals.drop (a.toNat+1)).map bP by rw[<-List.map_cons,<-List.map_append,<-CZ]]at this;exact this
  obtain⟨H,cl,pre,post,tl,hq,QD,wB,_,hB,ju⟩:=Uy.at;simp only[Value.slice.injEq]at hq;obtain⟨rfl,_,rfl⟩:=hq;have zX:pre.length=a.toNat:=by rw[wB];simp;omega
  have hdn:H ∉ T:=λC=>by
   have:=P.nd H;have:=List.count_pos_iff.2 C;simp only[hB,List.count_append,List.count_cons,List.count_nil,beq_self_eq_true,if_true]at *;omega
  have IU:(s.stack.getLast? : Option Int)=some t:=by rw[g];simp
  have hdl:s.stack.dropLast=l:=by rw[g];simp
  refine bD ?_;conv=>whnf
  repeat' ((first|exact trivial|apply And.intro|refine av ?_|refine ay ?_|refine aP q2 ?_|refine ptr ?_|refine ld W ?_)<;>conv=>whnf)
  all_goals
   refine vI QD (pre++bP t++post) (by simp[zX,bP]<;>omega) (jN (x':=bP t) (by show 0+a.toNat*1=pre.length;omega) rfl) (λQ e5 g5=>?_);conv=>whnf
   refine av ?_;conv=>whnf
   refine ay ?_;conv=>whnf
   have Qz:h0.le Q:=by
    rw[e5];exact Heap.aR hle (P.fr H (by rw[hB];simp))
   have o5:dI Q (.slice (some ⟨H,0,none⟩) s.locals.length F) (s.locals.set a.toNat t) B1:=by
    have:=ju Q (bP t) g5 rfl;unfold dI;rw[show(s.locals.set a.toNat t).map bP=(s.locals.take a.toNat).map bP++bP t::(s.locals.drop (a.toNat+1)).map bP by rw[List.set_eq_take_append_cons_drop,if_pos M,List.map_append,List.map_cons]];exact this
   have Cy:cH t:=i2 t (by rw[g];simp);have r5:=(eC o5 (by simp;omega) (λD C=>by
    rcases List.mem_or_eq_of_mem_set C with C|rfl
    ·exact i1 D C
    exact Cy)).2
   have o6:dI Q (.slice K s.stack.length E) s.stack T:=P.o2.aJ λb hb ab ho=>by
    have:b≠H:=by rintro rfl;exact hdn hb
    rw[e5];simp only[Heap.set,this,if_false];exact ho
   have r6:=(eC o6 O i2).2.first (m:=l.length) O;have pW:s.stack.take l.length=l:=by rw[g];simp
   rw[pW]at r6;refine⟨Qz,?_⟩;rw[IU,hdl];have KI:(s.locals.set a.toNat t).length=s.locals.length:=by simp
   refine⟨some ⟨H,0,none⟩,F,K,E,?_,r5,r6⟩;rw[KI,R]
 refine cx k4 ?_;conv=>whnf
 by_cases k5:i=5
 ·subst k5;conv=>whnf
  refine dn [.int .i64 0] rfl (λo e J I d j=>?_);conv=>whnf
  refine G [0] Z Z e o _ _ _ 1 d j rfl (λa y w q z x u b f=>?_);conv=>whnf
  exact⟨Heap.le_trans hle d,f⟩
 refine cx k5 ?_;conv=>whnf
 by_cases k6:i=6
 ·subst k6;have e4:mH cs ⟨6,a,b⟩ s=(match s.stack.getLast? with
   | none=>none
   | some t=>gr (some s) t):=rfl
  rw[e4];conv=>whnf
  rcases List.eq_nil_or_concat s.stack with g|⟨l,t,g⟩
  ·refine eR (by rw[g];rfl) ?_;conv=>whnf
   refine⟨hle,?_⟩;rw[g];exact⟨_,_,_,_,_,_,_,rfl⟩
  rw[List.concat_eq_append]at g;have hlk:s.stack.length=l.length+1:=by rw[g];simp
  have NK:l.length < s.stack.length:=by omega
  have f2:=A.2.at NK;obtain⟨X,o2,q2,L⟩:=f2;have NI:s.stack[l.length]=t:=by simp[g]
  rw[NI]at L;have R:((s.stack.length:Int)-1).toNat=l.length:=by omega
  have W:rd h X (o2+((s.stack.length:Int)-1).toNat*1)=some (.int .i64 t):=by rw[R];exact L
  have IU:(s.stack.getLast? : Option Int)=some t:=by rw[g];simp
  have Cy:cH t:=i2 t (by rw[g];simp);rw[IU];refine bD ?_;conv=>whnf
  repeat' ((first|exact trivial|apply And.intro|refine av ?_|refine ay ?_|refine aP q2 ?_|refine ld W ?_|refine qU A.out Cy (λr B=>by simp only[Option.some.injEq]at B;subst B;exact N) (λe a y w q z x u b d f=>?_))<;>conv=>whnf)
  all_goals first|exact Heap.le_trans hle d|exact f
 refine cx k6 ?_;conv=>whnf
 by_cases k7:i=7
 ·subst k7;conv=>whnf
  refine dn [.int .i64 1,.int .i64 1] rfl (λo e J I d j=>?_);conv=>whnf
  refine G [1,1] Z Z e o _ _ _ 2 d j rfl (λa y w q z x u b f=>?_);conv=>whnf
  refine mI f (by unfold cH;omega) (fX N) (λh2 a y w q z x u b l2 f=>?_);conv=>whnf
  exact⟨Heap.le_trans hle (Heap.le_trans d l2),f⟩
 refine cx k7 ?_;conv=>whnf
 by_cases k8:i=8
 ·subst k8;conv=>whnf
  refine dn [.int .i64 1,.int .i64 1] rfl (λo e J I d j=>?_);conv=>whnf
  refine G [1,1] Z Z e o _ _ _ 2 d j rfl (λa y w q z x u b f=>?_);conv=>whnf
  exact⟨Heap.le_trans hle d,f⟩
 refine cx k8 ?_;conv=>whnf
 by_cases k9:i=9
 ·subst k9;conv=>whnf
  refine dn [.int .i64 1,.int .i64 1] rfl (λo e J I d j=>?_);conv=>whnf
  refine G [1,1] Z Z e o _ _ _ 2 d j rfl (λa y w q z x u b f=>?_);conv=>whnf
  exact⟨Heap.le_trans hle d,f⟩
 refine cx k9 ?_;conv=>whnf
 by_cases Uz:i=10
 ·subst Uz;conv=>whnf
  refine dn [.int .i64 8] rfl (λo e J I d j=>?_);conv=>whnf
  refine G [8] Z Z e o _ _ _ 1 d j rfl (λa y w q z x u b f=>?_);conv=>whnf
  exact⟨Heap.le_trans hle d,f⟩
 refine cx Uz ?_;conv=>whnf
 by_cases UA:i=24
 ·subst UA;conv=>whnf
  refine dn [.int .i64 1] rfl (λo e J I d j=>?_);conv=>whnf
  refine G [1] Z Z e o _ _ _ 1 d j rfl (λa y w q z x u b f=>?_);conv=>whnf
  exact⟨Heap.le_trans hle d,f⟩
 refine cx UA ?_;conv=>whnf
 by_cases KE:i=23
 ·subst KE;conv=>whnf
  refine dn [.int .i64 9] rfl (λo e J I d j=>?_);conv=>whnf
  refine G [9] Z Z e o _ _ _ 1 d j rfl (λa y w q z x u b f=>?_);conv=>whnf
  exact⟨Heap.le_trans hle d,f⟩
 refine cx KE ?_;conv=>whnf
 have e9:mH cs ⟨i,a,b⟩ s=some s:=by simp[mH,k1,k2,k3,k4,k5,k6,k7,k8,k9,Uz,KE,UA]
 rw[e9];exact⟨hle,A.out⟩
theorem oG {cs:List dH} (ok:cn cs):∀(k:Nat) {c:Int},c.toNat < k->c < cs.length->fQ cs.length (cP cs c)
 | 0,c,h,_=>by omega
 | k+1,c,h,hl=>by
  by_cases e:c<=0
  ·rw[ep e];intro t b;cases b
  have d:c.toNat < cs.length:=by omega
  have f:=ok.2.2 c.toNat d;have g:=ok.bO (a:=c) O hl;rw[jB ok O hl];intro t b;rcases List.mem_append.1 b with b|b
  ·exact oG ok k (c:=bC cs c) O O t b
  have:gx cs c=cs[c.toNat].fields:=by simp[gx,d]
  rw[this]at b;exact f.1 t b
theorem fh {n t:Int} (h:cL n t):0 < t/\(t < 8\/t < 8+n):=by unfold cL at h;omega
theorem uV {K:Value->Heap->Prop} {E:List PanicEntry->Heap->Prop} {p:Option Addr} {n c:Nat} {cs:List dH} {x:Int} {h:Heap} (i:eD h (.slice p n c) cs) (ok:cn cs) (b:0<=x/\x < cs.length)
  (g:∀ h' d a,h.le h'->cR h' (.slice d (cP cs x).length a) (cP cs x)->K (.slice d (cP cs x).length a) h'):fE prog 50 [.slice p n c,.int .i64 x] h K E :=
 cO (iy (x.toNat+1) p n c cs x h i ok b.1 b.2 O) (λv h' j=>by
  obtain⟨f,B,own,_⟩:=j;obtain⟨d,a,rfl,_⟩:=own.form;have q:=ec ok b.2;have m:∀ t∈cP cs x,cH t:=λt o=>by
   have:=fh (oG ok (x.toNat+1) O b.2 t o);have:=ok.2.1;unfold cH;omega
  have e:=eC own O m;rw[e.1];exact⟨f,g h' d a f e.2⟩)
def uW (a:Int):Int:=if a=0 then 3 else 4
def kI (a:Int):Int:=if a=0 then 1 else 8
def sB (cs:List dH) (i:dc) (s:dF):Option dF :=
 if i.kind=12 then gr (some s) (8+i.a)
 else if i.kind=13 then gr (fC cs s [1]) (uW i.a)
 else if i.kind=14 then gr (match fC cs s [3]with
  | some r=>some r
  | none=>fC cs s [4]) 1
 else if i.kind=15 then gr (fC cs s [uW i.a,1]) (kI i.a)
 else if i.kind=16 then fC cs s [uW i.a,1,kI i.a]
 else if i.kind=17 then gr (fC cs s [8+i.a]) ((cP cs i.a).getD i.b.toNat 0)
 else if i.kind=18 then fC cs s [8+i.a,(cP cs i.a).getD i.b.toNat 0]
 else gr (fC cs s [8]) (8+i.a)
theorem BY (p:Option Addr) (n c:Nat) (cs:List dH) (w a b:Int) (s:dF) (lp kp:Option Addr) (lc kc:Nat) (h:Heap) (hcs:eD h (.slice p n c) cs) (ok:cn cs) (Y:oN h s lp kp lc kc) (hv:∀ t∈s.stack,t < 8+cs.length) (S:s.stack.length<=1000)
  (W:12<=w/\w<=19) (ha:0<=a/\a<=4) (hc:w=12\/w=17\/w=18\/w=19->a < cs.length) (hb:w=17\/w=18->0<=b/\b < (cP cs a).length) :
  bI prog 160 [.slice p n c,.agg #[.int .i64 w,.int .i64 a,.int .i64 b],.agg #[.bool s.told,.slice lp s.locals.length lc,.slice kp s.stack.length kc]] h λv h'=>h.le h'/\qT h' v (sB cs ⟨w,a,b⟩ s):=by
 have H7:=ok.1;have vL:=ok.2.1;have PA:∀ r,some s=some r->r.stack.length<=1000:=λr hr=>by simp only[Option.some.injEq]at hr;subst hr;exact S
 have Kl:uW a=3\/uW a=4:=by unfold uW;split<;>simp
 have Gj:kI a=1\/kI a=8:=by unfold kI;split<;>simp
 have T:∀ {t:Int},0<=t->t<=1000->cH t:=λh0 f=>by unfold cH;omega
 have Jf:w=17\/w=18->0<=(cP cs a).getD b.toNat 0/\(cP cs a).getD b.toNat 0 < 8+cs.length/\(cP cs a).getD b.toNat 0<=100:=λW=>by
  have HT:=hb W;have N:b.toNat < (cP cs a).length:=by omega
  have F:(cP cs a).getD b.toNat 0=(cP cs a)[b.toNat]:=by simp[N]
  have:=fh (oG ok (a.toNat+1) O (hc O) _ (List.getElem_mem N));rw[F];have LN:(cP cs a)[b.toNat] < 8+cs.length:=by omega
  omega
 have V:∀(types:List Int),types.length<=1000->(∀ y∈types,0<=y/\y < 8+cs.length/\y<=100)->∀(f:Heap) (Q:Nat) (ty:TypeId) (K:Value->Heap->Prop) (X:List PanicEntry->Heap->Prop) (M:Nat),h.le f->f Q=some (.cells (types.map (Value.int .i64)).toArray ty (0,0))->M=types.length ->
   (∀ a q m i u o j b,qT f (.tuple #[.agg #[.bool a,.slice q m i,.slice u o j],.bool b]) (fC cs s types)->K (.tuple #[.agg #[.bool a,.slice q m i,.slice u o j],.bool b]) f) ->
   Vc.Call prog 158 [.slice p n c,.agg #[.bool s.told,.slice lp s.locals.length lc,.slice kp s.stack.length kc],.slice (some ⟨Q,0,none⟩) M M] f K X:=by
  intro types hl P f Q ty K X M e z hn hK;subst hn;exact GH (hcs.le e (λ_ _ P=>P.le e)) ok (Y.1.le e) (Y.2.le e) rfl (qV z hl (λy H=>by have:=P y H;omega)) hv (λy H=>by have:=P y H;omega) hK
 have Jg:=D7 a h;have R:(if a=0 then (3:Int)else 4)=uW a:=rfl;have e2:(if a=0 then (1:Int)else 8)=kI a:=rfl;rw[R,e2]at Jg;generalize vX:uW a=QT at Jg Kl;generalize het:kI a=Xg at Jg Gj;refine bT aB func160 Sn U rfl ?_;conv=>whnf
 refine ax Jg ?_;conv=>whnf
 refine av ?_;conv=>whnf
 by_cases Xh:w=12
 ·subst Xh;conv=>whnf
  refine mI Y.out (T O O) PA (λf a q m i u o j b e d=>?_);conv=>whnf
  exact⟨e,d⟩
 refine cx Xh ?_;conv=>whnf
 by_cases Xi:w=13
 ·subst Xi;conv=>whnf
  refine dn [.int .i64 1] rfl (λA f vW R e z=>?_);conv=>whnf
  refine V [1] Z (by simp;omega) f A _ _ _ 1 e z rfl (λa q m i u o j b d=>?_);conv=>whnf
  refine mI d (T O O) (fX S) (λh2 a q m i u o j b L d=>?_);conv=>whnf
  refine⟨Heap.le_trans e L,?_⟩;rw[<-vX]at d;exact d
 refine cx Xi ?_;conv=>whnf
 by_cases Xj:w=14
 ·subst Xj;conv=>whnf
  refine dn [.int .i64 3] rfl (λA f vW R e z=>?_);conv=>whnf
  refine V [3] Z (by simp;omega) f A _ _ _ 1 e z rfl (λD q m i u o j G d=>?_);have et:sB cs ⟨14,a,b⟩ s=gr (match fC cs s [3]with
   | some r=>some r
   | none=>fC cs s [4]) 1:=rfl
  rw[et];cases UB:fC cs s [3]with
  | some r =>
   rw[UB]at d;have oU:G=true:=by obtain⟨_,_,_,_,F,_⟩:=d;simp only[Value.tuple.injEq,Array.mk.injEq,List.cons.injEq,Value.bool.injEq,and_true]at F;exact F.2
   subst oU;have Xk:=fX S r UB;conv=>whnf
   refine mI d (T O O) (λr' Lv=>by simp only[Option.some.injEq]at Lv;subst Lv;exact Xk) (λh2 a q m i u o j b L d=>?_);conv=>whnf
   exact⟨Heap.le_trans e L,d⟩
  | none =>
   rw[UB]at d;have oU:G=false:=by obtain⟨_,_,_,_,_,_,_,F⟩:=d;simp only[Value.tuple.injEq,Array.mk.injEq,List.cons.injEq,Value.bool.injEq,and_true]at F;exact F.2
   subst oU;conv=>whnf
   refine dn [.int .i64 4] rfl (λb3 g yE e3 I g3=>?_);conv=>whnf
   refine V [4] Z (by simp;omega) g b3 _ _ _ 1 (Heap.le_trans e I) g3 rfl (λD q m i u o j G d=>?_);conv=>whnf
   refine mI d (T O O) (fX S) (λh2 a q m i u o j b L d=>?_);conv=>whnf
   exact⟨Heap.le_trans e (Heap.le_trans I L),d⟩
 refine cx Xj ?_;conv=>whnf
 by_cases Xl:w=15
 ·subst Xl;conv=>whnf
  refine dn [.int .i64 QT,.int .i64 1] rfl (λA f vW R e z=>?_);conv=>whnf
  refine V [QT,1] Z (by simp;omega) f A _ _ _ 2 e z rfl (λD q m i u o j G d=>?_);conv=>whnf
  refine mI d (T O O) (fX S) (λh2 D q m i u o j G L d=>?_);conv=>whnf
  refine⟨Heap.le_trans e L,?_⟩;rw[<-vX,<-het]at d;exact d
 refine cx Xl ?_;conv=>whnf
 by_cases Xm:w=16
 ·subst Xm;conv=>whnf
  refine dn [.int .i64 QT,.int .i64 1,.int .i64 Xg] rfl (λA f vW R e z=>?_);conv=>whnf
  refine V [QT,1,Xg] Z (by simp;omega) f A _ _ _ 3 e z rfl (λD q m i u o j G d=>?_);conv=>whnf
  refine⟨e,?_⟩;rw[<-vX,<-het]at d;exact d
 refine cx Xm ?_;conv=>whnf
 by_cases Xn:w=17
 ·subst Xn;have hf:=Jf (.inl rfl);have QU:=hc Z;have HV:=hb (.inl rfl);have N:b.toNat < (cP cs a).length:=by omega
  have Pz:(cP cs a).getD b.toNat 0=(cP cs a)[b.toNat]:=by simp[N]
  conv=>whnf
  refine dn [.int .i64 (8+a)] rfl (λA f vW R e z=>?_);conv=>whnf
  refine V [8+a] Z (by simp;omega) f A _ _ _ 1 e z rfl (λD q m i u o j G d=>?_);have FN:=hcs.le e (λ_ _ P=>P.le e);have key:∀(g:Heap) (x:Option Addr) (E:Nat),cR g (.slice x (cP cs a).length E) (cP cs a)->∃ B C,x=some ⟨B,C,none⟩/\rd g B (C+b.toNat*1)=some (.int .i64 ((cP cs a).getD b.toNat 0)):=λg x E J=>by
   rw[Pz];exact J.at N
  have WL:∀ g,f.le g->qT g (.tuple #[.agg #[.bool D,.slice q m i,.slice u o j],.bool G]) (fC cs s [8+a]):=λg I=>by
   cases hp:fC cs s [8+a]with
   | none=>rw[hp]at d;exact d
   | some r =>
    rw[hp]at d;obtain⟨q1,d1,q2,d2,F,i1,i2⟩:=d;exact⟨q1,d1,q2,d2,F,i1.le I,i2.le I⟩
  have UC:∀(g:Heap) (x:Option Addr) (E:Nat),cR g (.slice x (cP cs a).length E) (cP cs a)->∀ K:Nat->Nat->Prop,(∀ B C,rd g B (C+b.toNat*1)=some (.int .i64 ((cP cs a).getD b.toNat 0))->K B C)->Ptr x K:=λg x E J K W=>by
   obtain⟨B,C,F,r⟩:=key g x E J;exact aP F (W B C r)
  conv=>whnf
  repeat' ((first|exact trivial|apply And.intro|refine uV FN ok ⟨ha.1,QU⟩ (λg x E I J=>?_)|refine ay ?_|refine UC g x E J _ (λB C rq=>?_)|refine ld rq ?_|refine qU (WL g I) (T O O) (fX S) (λh4 D q m i u o j G l4 d=>?_))<;>conv=>whnf)
  all_goals first|exact Heap.le_trans e (Heap.le_trans I l4)|exact d
 refine cx Xn ?_;conv=>whnf
 by_cases Xo:w=18
 ·subst Xo;have hf:=Jf (.inr rfl);have QU:=hc Z;have HV:=hb (.inr rfl);have N:b.toNat < (cP cs a).length:=by omega
  have Pz:(cP cs a).getD b.toNat 0=(cP cs a)[b.toNat]:=by simp[N]
  have UC:∀(g:Heap) (x:Option Addr) (E:Nat),cR g (.slice x (cP cs a).length E) (cP cs a)->∀ K:Nat->Nat->Prop,(∀ B C,rd g B (C+b.toNat*1)=some (.int .i64 ((cP cs a).getD b.toNat 0))->K B C)->Ptr x K:=λg x E J K W=>by
   obtain⟨B,C,F,r⟩:=J.at N;exact aP F (W B C (by rw[Pz];exact r))
  have two:∀ y∈[8+a,(cP cs a).getD b.toNat 0],0<=y/\y < 8+cs.length/\y<=100:=λy H=>by
   rcases List.mem_cons.1 H with rfl|H
   ·omega
   rw[List.mem_singleton.1 H];exact hf
  have UD:∀(f:Heap) (Q:Nat) (ty:TypeId) (K:Value->Heap->Prop) (X:List PanicEntry->Heap->Prop) (M:Nat),h.le f->f Q=some (.cells ([8+a,(cP cs a).getD b.toNat 0].map (Value.int .i64)).toArray ty (0,0))->M=2 ->
    (∀ D q m i u o j A,qT f (.tuple #[.agg #[.bool D,.slice q m i,.slice u o j],.bool A]) (fC cs s [8+a,(cP cs a).getD b.toNat 0])->K (.tuple #[.agg #[.bool D,.slice q m i,.slice u o j],.bool A]) f) ->
    fE prog 158 [.slice p n c,.agg #[.bool s.told,.slice lp s.locals.length lc,.slice kp s.stack.length kc],.slice (some ⟨Q,0,none⟩) M M] f K X:=by
   intro f Q ty K X M e z hn hK;subst hn;exact BV (types:=[8+a,(cP cs a).getD b.toNat 0]) (hcs.le e (λ_ _ P=>P.le e)) ok (Y.1.le e) (Y.2.le e) rfl (qV z Z (λy H=>by have:=two y H;omega)) hv (λy H=>by have:=two y H;omega) hK
  conv=>whnf
  repeat' ((first|exact trivial|apply And.intro|refine uV hcs ok ⟨ha.1,QU⟩ (λg x E I J=>?_)|refine ay ?_|refine UC g x E J _ (λB C rq=>?_)|refine ld rq ?_|refine dn [.int .i64 (8+a),.int .i64 ((cP cs a).getD b.toNat 0)] rfl (λb5 h5 vG e5 l5 g5=>?_)|refine UD h5 b5 _ _ _ _ (Heap.le_trans I l5) g5 rfl (λD q m i u o j G d=>?_))<;>conv=>whnf)
  all_goals first|exact Heap.le_trans I l5|exact d
 refine cx Xo ?_;conv=>whnf
 have k19:w=19:=by omega
 subst k19;refine dn [.int .i64 8] rfl (λA f vW R e z=>?_);conv=>whnf
 refine V [8] Z (by simp;omega) f A _ _ _ 1 e z rfl (λD q m i u o j G d=>?_);conv=>whnf
 refine mI d (T O O) (fX S) (λh2 D q m i u o j G L d=>?_);conv=>whnf
 exact⟨Heap.le_trans e L,d⟩
theorem iW {o:TypeId} {h g:Heap} {p:Option Addr} {n c m:Nat} {l k:List Int} {B:List Nat} {K:Value->Heap->Prop} (y:dI g (.slice p n c) l B) (q:∀ b∈B,h b=none) (v:h.le g) (x:m=k.length) (F:l.length+k.length<=1000000) (s:∀ t∈l++k,cH t)
  (u:∀ e d a B',h.le a->dI a (.slice e (l.length+k.length) d) (l++k) B'->cR a (.slice e (l++k).length d) (l++k)->(∀ b∈B',h b=none)->K (.slice e (l++k).length d) a):App 8 1 [.int .i64 0] o g p n c m (k.map (Value.int .i64)) K:=by
 refine cX (h0:=h) (xs:=l.map bP) (ys:=k.map bP) y q v (dy k).symm (by rw[x];simp) (λJ z=>by obtain⟨I,_,rfl⟩:=List.mem_map.1 z;rfl) (di k) rfl (by simp;omega) (by simp;omega) ?_;intro E a i A C D G H;have f:dI a E (l++k) i:=by unfold dI;rw[List.map_append];exact C
 obtain⟨e,d,rfl,_⟩:=bW.form f;have w:((l++k).map bP).length=(l++k).length:=by simp
 rw[w]at f ⊢;have j:(l++k).length=l.length+k.length:=by simp
 exact u e d a i A (by rw[<-j];exact f) (eC f (by rw[j];omega) s).2 D
def uX (u:aS) (i:dc) (s:dF):Option dF :=
 let k:=if i.kind=21 then find u i.a i.b else i.a
 if k < 0 then none else gr (fC u.aq s ((if i.kind=21 then [8+i.a]else [])++(aY u k).args)) (aY u k).out
def D8 (u:aS):Prop:=cn u.aq/\∀ m∈u.methods,m.args.length<=3/\fQ u.aq.length m.args/\cL u.aq.length m.out
theorem D8.aY {u:aS} (a:D8 u) {k:Int} (h:0<=k/\k < u.methods.length):(aY u k).args.length<=3/\fQ u.aq.length (aY u k).args/\cL u.aq.length (aY u k).out:=a.2 _ (fB h)
theorem D9 (us:List Value) (u:aS) (q a b:Int) (s:dF) (lp kp:Option Addr) (lc kc:Nat) (h:Heap) (hu:cZ h us u) (Q:D8 u) (G:oN h s lp kp lc kc) (hv:∀ t∈s.stack,t < 8+(u.aq.length:Int)) (hl2:s.stack.length<=1000)
  (hk:q=20\/q=21) (OE:q=20->0<=a/\a < u.methods.length) (Kg:q=21->0<=a/\a < u.aq.length) :
  bI prog 159 [.agg ⟨us⟩,.agg #[.int .i64 q,.int .i64 a,.int .i64 b],.agg #[.bool s.told,.slice lp s.locals.length lc,.slice kp s.stack.length kc]] h λv h'=>h.le h'/\qT h' v (uX u ⟨q,a,b⟩ s):=by
 have oT:=hu;obtain⟨ad,cc,aa,ab,rfl,hcs,kS,ko,UE⟩:=hu.form;have ok:=Q.1;have vL:=ok.2.1;have args:∀(e:Heap) (k:Int),h.le e->0<=k->k < u.methods.length->∃ j o K F,aa=some ⟨j,o,none⟩/\rd e j (o+k.toNat*8+2)=some (.slice K (aY u k).args.length F)/\rd e j (o+k.toNat*8+3)=some (.int .i64 (aY u k).out)/\cR e (.slice K (aY u k).args.length F) (aY u k).args:=by
  intro e k d NY IP;have hi:k.toNat < u.methods.length:=by omega
  obtain⟨j,o,ms,vS,e1,e2⟩:=kS.get hi;have R:aY u k=u.methods[k.toNat]:=fm hi O;obtain⟨D,w,Y,N,J,E,p4,c4,e3,k1,k2,k3,k4,k5,k6,k7,k8,d1,d2,d3,d4⟩:=e2.form;subst e3;exact⟨j,o,D,w,vS,by rw[R];exact aW d (aM e1 (i:=2) rfl),by rw[R];exact aW d (aM e1 (i:=3) rfl),by rw[R];exact k5.le d⟩
 rcases hk with rfl|rfl
 ·have y:=OE rfl;have P:uX u ⟨20,a,b⟩ s=gr (fC u.aq s ([]++(aY u a).args)) (aY u a).out:=by
   unfold uX;simp;omega
  rw[P];have A:=Q.aY y;have ho:=fh A.2.2;obtain⟨j,o,K,F,B,ra,ro,ri⟩:=args h a (Heap.le_refl h) y.1 y.2;have C:∀ t∈[]++(aY u a).args,0<=t/\t < 8+(u.aq.length:Int):=λt c=>by
   have:=fh (A.2.1 t (by simpa using c));omega
  refine bT aB func159 It Fa rfl ?_;conv=>whnf
  refine dn [] rfl (λb0 e z e0 d x=>?_);conv=>whnf
  refine bD ?_;conv=>whnf
  have UF:=aW d ra;repeat' ((first|exact trivial|apply And.intro|refine ay ?_|refine aP B ?_|refine ld UF ?_|refine zU d ri ?_|refine iW (l:=[]) (dL x) (by simpa using z) d rfl (by simp;omega) (λt c=>by have:=C t c;unfold cH;omega) (λY N h2 B2 f X r2 V=>?_)|refine BV (hcs.le f (λ_ _ S=>S.le f)) ok (G.1.le f) (G.2.le f) rfl r2 hv (λt c=>(C t c).2) (λL D T w J W E M m=>?_))<;>conv=>whnf)
  all_goals
   have UG:=aW f ro;repeat' ((first|exact trivial|apply And.intro|refine ay ?_|refine aP B ?_|refine ld UG ?_|refine qU m (by unfold cH;omega) (fX hl2) (λh4 L D T w J W E M g m=>?_))<;>conv=>whnf)
   all_goals first|exact Heap.le_trans f g|exact m
 have y:=Kg rfl;have P:uX u ⟨21,a,b⟩ s=if find u a b < 0 then none else gr (fC u.aq s ([8+a]++(aY u (find u a b)).args)) (aY u (find u a b)).out:=rfl
 rw[P];have H:=λ(e:Heap) (d:h.le e)=>qp _ u a b e (oT.le d) ok O y.2;have hfb:=gK u a b;by_cases p:find u a b < 0
 ·rw[if_pos p];generalize find u a b=k at H p;refine bT aB func159 It Fa rfl ?_;conv=>whnf
  refine dn [] rfl (λb0 e z e0 d x=>?_);conv=>whnf
  refine ax (H e d) ?_;conv=>whnf
  refine av ?_;conv=>whnf
  refine iW (l:=[]) (k:=[8+a]) (dL x) (by simpa using z) d rfl Z (λt c=>by simp at c;unfold cH;omega) (λY N h2 B2 f X r2 V=>?_);conv=>whnf
  refine eR p ?_;conv=>whnf
  exact⟨f,_,_,_,_,_,_,_,rfl⟩
 rw[if_neg p];have I:0<=find u a b/\find u a b < u.methods.length:=by omega
 generalize find u a b=k at H p I;have A:=Q.aY I;have ho:=fh A.2.2;obtain⟨j,o,K,F,B,ra,ro,ri⟩:=args h k (Heap.le_refl h) I.1 I.2;have C:∀ t∈([]++[8+a])++(aY u k).args,0<=t/\t < 8+(u.aq.length:Int):=λt c=>by
  simp only[List.nil_append,List.cons_append,List.mem_cons]at c;rcases c with rfl|c
  ·omega
  have:=fh (A.2.1 t c);omega
 refine bT aB func159 It Fa rfl ?_;conv=>whnf
 refine dn [] rfl (λb0 e z e0 d x=>?_);conv=>whnf
 refine ax (H e d) ?_;conv=>whnf
 refine av ?_;conv=>whnf
 refine iW (l:=[]) (k:=[8+a]) (dL x) (by simpa using z) d rfl Z (λt c=>by simp at c;unfold cH;omega) (λY N h2 B2 f X r2 V=>?_);conv=>whnf
 refine cx p ?_;conv=>whnf
 have UF:=aW f ra;repeat' ((first|exact trivial|apply And.intro|refine ay ?_|refine aP B ?_|refine ld UF ?_|refine zU f ri ?_|refine iW (l:=[]++[8+a]) X V f rfl (by simp;omega) (λt c=>by have:=C t c;unfold cH;omega) (λp4 c4 h4 B4 g o4 r4 n4=>?_)|refine BV (hcs.le g (λ_ _ S=>S.le g)) ok (G.1.le g) (G.2.le g) rfl r4 hv (λt c=>(C t c).2) (λL D T w J W E M m=>?_))<;>conv=>whnf)
 all_goals
  have UG:=aW g ro;repeat' ((first|exact trivial|apply And.intro|refine ay ?_|refine aP B ?_|refine ld UG ?_|refine qU m (by unfold cH;omega) (fX hl2) (λh5 L D T w J W E M l5 m=>?_))<;>conv=>whnf)
  all_goals first|exact Heap.le_trans g l5|exact m
def stepT (u:aS) (m:cu) (i:dc) (s:dF):Option dF :=
 if i.kind=22 then fC u.aq s [m.out]
 else if i.kind=20\/i.kind=21 then uX u i s
 else if 12<=i.kind/\i.kind<=19 then sB u.aq i s
 else mH u.aq i s
structure qW (n:Nat) (k:Int) (s:dF):Prop where
 loc:(s.locals.length:Int)=k
 nK:∀ t∈s.locals,0<=t/\t < 8+(n:Int)
 cA:∀ t∈s.stack,0<=t/\t < 8+(n:Int)
 len:s.stack.length<=4
theorem sC (us ms:List Value) (u:aS) (m:cu) (o:Int) (s:dF) (lp W:Option Addr) (X V:Nat) (h:Heap) (hu:cZ h us u) (hm:dO h ms m) (hV:D8 u) (hI:oN h s lp W X V) (i:qW u.aq.length m.locals s) (hl:m.locals<=3) (vX:0<=o/\o < m.code.length) (f:ej u m (m.code.getD o.toNat dj)) (mX:cL u.aq.length m.out) :
  bI prog 128 [.agg ⟨us⟩,.agg ⟨ms⟩,.int .i64 o,.agg #[.bool s.told,.slice lp s.locals.length X,.slice W s.stack.length V]] h λv h'=>h.le h'/\qT h' v (stepT u m (m.code.getD o.toNat dj) s):=by
 have oT:=hu;obtain⟨p,Q,q,ab,rfl,hcs,kS,ko,UE⟩:=hu.form;have ok:=hV.1;have vL:=ok.2.1;obtain⟨J,C,p2,c2,K,D,p4,c4,rfl,k1,k2,k3,k4,k5,k6,k7,k8,d1,d2,d3,d4⟩:=hm.form;have lu:o.toNat < m.code.length:=by omega
 obtain⟨bc,oc,Tq,FO,f1,f2,f3⟩:=k6.get lu;have hg:m.code.getD o.toNat dj=m.code[o.toNat]:=by simp[lu]
 rw[hg]at f ⊢;subst f2;generalize m.code[o.toNat]=aa at f1 f;obtain⟨b,e,j⟩:=aa;simp only at f1;have nL:=sA s.told lp W X V s.locals s.stack h hI.1 hI.2 (by have:=i.loc;omega) (by have:=i.len;omega);have G:∀ t∈s.stack,t < 8+(u.aq.length:Int):=λt A=>(i.cA t A).2;have UH:=i.len;have Xp:=fh mX;have i1:∀ t∈s.locals,cH t:=λt A=>by have:=i.nK t A;unfold cH;omega
 have i2:∀ t∈s.stack,cH t:=λt A=>by have:=i.cA t A;unfold cH;omega
 have g:stepT u m ⟨b,e,j⟩ s=if b=22 then fC u.aq s [m.out]else if b=20\/b=21 then uX u ⟨b,e,j⟩ s else if 12<=b/\b<=19 then sB u.aq ⟨b,e,j⟩ s else mH u.aq ⟨b,e,j⟩ s:=rfl
 generalize stepT u m ⟨b,e,j⟩ s=res at g;refine bT aB func128 RZ U rfl ?_;conv=>whnf
 refine ay ?_;conv=>whnf
 refine aP FO ?_;conv=>whnf
 refine dh f1 ?_;conv=>whnf
 refine aG nL (λv y c=>?_);refine c.elim λL c=>c.elim λE c=>c.elim λM c=>c.elim λF c=>c.elim λB1 c=>c.elim λB2 c=>?_;have hv:=c.1;subst hv;have st:=c.2;have x:=st.le;have r1:=(eC st.o1 (by have:=i.loc;omega) i1).2;have r2:=(eC st.o2 O i2).2;have z:oN y s L M E F:=⟨r1,r2⟩
 have R:eD y (.slice p u.aq.length Q) u.aq:=hcs.le x (λ_ _ f=>f.le x);have LV:=oT.le x;by_cases H:b=22
 ·rw[if_pos H]at g;subst H;conv=>whnf
  refine dn [.int .i64 m.out] rfl (λb3 h3 yE e3 B g3=>?_);conv=>whnf
  refine GH (types:=[m.out]) (R.le B (λ_ _ f=>f.le B)) ok (z.1.le B) (z.2.le B) rfl (qV g3 Z (λaa S=>by rw[List.mem_singleton.1 S];omega)) G (λaa S=>by rw[List.mem_singleton.1 S];omega) (λN J Y C K n3 D P i=>?_);conv=>whnf
  rw[g];exact⟨Heap.le_trans x B,i⟩
 rw[if_neg H]at g;by_cases w:b=20\/b=21
 ·rw[if_pos w]at g;have CR:=D9 _ u b e j s L M E F y LV hV z G O w (λd=>by
   subst d;have:=(aL (p:=7) (q:=0) rfl).1 f;simp[br]at this;exact this.1.1) (λd=>by
   subst d;have:=(aL (p:=5) (q:=9) rfl).1 f;simp[br]at this;exact this.1)
  rw[<-g]at CR;rcases w with rfl|rfl;all_goals
   conv=>whnf
   refine aG CR (λv h2 c=>?_);refine c.2.form.elim λN a=>a.elim λJ a=>a.elim λY a=>a.elim λC a=>a.elim λK a=>a.elim λn3 a=>a.elim λD a=>a.elim λP a=>?_;subst a;conv=>whnf
   exact⟨Heap.le_trans x c.1,c.2⟩
 rw[if_neg w]at g;have IS:¬b=20:=λd=>w (.inl d);have Mh:¬b=21:=λd=>w (.inr d);conv=>whnf
 refine cx H ?_;conv=>whnf
 refine cx IS ?_;conv=>whnf
 refine cx Mh ?_;conv=>whnf
 refine ax (de _ _ _ _) ?_;conv=>whnf
 apply aD<;>intro I;all_goals conv=>whnf
 ·rw[if_pos I]at g;have T:(b=12\/b=17\/b=18\/b=19->0<=e/\e < u.aq.length)/\(b=17\/b=18->0<=j/\j < (cP u.aq e).length):=f.sn;have Kl:b=13\/b=15\/b=16->e=0\/e=1:=λd=>by
   rcases d with rfl|rfl|rfl;all_goals
    have:=(aL (p:=6) (q:=0) rfl).1 f;simp[br]at this;exact this.1
  have h14:b=14->e=0:=λd=>by
   subst d;have:=(aL (p:=0) (q:=0) rfl).1 f;simp[br]at this;exact this.1
  have GJ:=BY p u.aq.length Q u.aq b e j s L M E F y R ok z G O I (by
   by_cases d:b=12\/b=17\/b=18\/b=19
   ·have:=T.1 d;omega
   by_cases Xq:b=14
   ·have:=h14 Xq;omega
   have:=Kl O;omega) (λd=>(T.1 d).2) T.2
  rw[<-g]at GJ;refine aG GJ (λv h2 c=>?_);refine c.2.form.elim λN a=>a.elim λJ a=>a.elim λY a=>a.elim λC a=>a.elim λK a=>a.elim λn3 a=>a.elim λD a=>a.elim λP a=>?_;subst a;conv=>whnf
  exact⟨Heap.le_trans x c.1,c.2⟩
 rw[if_neg I]at g;have GK:=BW p u.aq.length Q u.aq b e j s L M E F B1 B2 h y R ok st z G (λd=>by
  rcases d with rfl|rfl;all_goals
   have:=(aL (p:=2) (q:=0) rfl).1 f;simp[br]at this;have:=i.loc;omega) (by have:=i.loc;omega) O
 rw[<-g]at GK;refine aG GK (λv h2 c=>?_);refine c.2.form.elim λN a=>a.elim λJ a=>a.elim λY a=>a.elim λC a=>a.elim λK a=>a.elim λn3 a=>a.elim λD a=>a.elim λP a=>?_;subst a;conv=>whnf
 exact c
def yF (cs:List dH) (a b:dF):Bool:=decide (a.stack.length=b.stack.length)&&(gq cs a.locals b.locals&&gq cs a.stack b.stack)
theorem wR {cs:List dH} (l r:List Int):gq cs (l.drop l.length) (r.drop l.length)=true:=by rw[List.drop_length];simp[gq]
theorem yj (p:Option Addr) (n c:Nat) (cs:List dH) (s r:dF) (lp o mp j:Option Addr) (q m mc g:Nat) (h:Heap) (D:eD h (.slice p n c) cs) (ok:cn cs) (f:oN h s lp o q m) (C:oN h r mp j mc g) (T:s.locals.length<=r.locals.length) (P:∀ t∈s.locals,t < 8+(cs.length:Int)) (Q:∀ t∈s.stack,t < 8+(cs.length:Int))
  (M:∀ t∈r.locals,t < 8+(cs.length:Int)) (N:∀ t∈r.stack,t < 8+(cs.length:Int)) :
  Pure prog 126 [.slice p n c,.agg #[.bool s.told,.slice lp s.locals.length q,.slice o s.stack.length m],.agg #[.bool r.told,.slice mp r.locals.length mc,.slice j r.stack.length g]] h (.bool (yF cs s r)):=by
 have V:=f.1.1;have W:=f.2.1;have fin:∀ {B:Bool},yF cs s r=B->Value.bool B=.bool (yF cs s r):=λG=>by rw[G]
 refine fD aB func126 RX U rfl ?_;conv=>whnf
 apply aU<;>intro H;all_goals conv=>whnf
 ·exact⟨fin (by unfold yF;simp;omega),rfl⟩
 have L:s.stack.length=r.stack.length:=by omega
 have K:yF cs s r=(gq cs (s.locals.drop 0) (r.locals.drop 0)&&gq cs s.stack r.stack):=by unfold yF;simp[L]
 refine eu [0,4,5,7] [4,5] (λi:Nat=>i<=s.locals.length/\yF cs s r=(gq cs (s.locals.drop i) (r.locals.drop i)&&gq cs s.stack r.stack)) (λi=>s.locals.length-i)
  (λi=>([.v (.slice p n c),.l 4 0,.l 5 0,.v (.int .i64 i)],[some [.bool s.told,.slice lp s.locals.length q,.slice o s.stack.length m],some [.bool r.told,.slice mp r.locals.length mc,.slice j r.stack.length g]],h)) 0 ⟨O,K⟩ rfl ?_
 rintro i ⟨J,a⟩;conv=>whnf
 apply aD<;>intro w;all_goals conv=>whnf
 ·have d:i < s.locals.length:=by omega
  have e:i < r.locals.length:=by omega
  obtain⟨E,R,z,u⟩:=f.1.at d;obtain⟨F,S,A,v⟩:=C.1.at e;have y:=rZ p n c cs s.locals[i] r.locals[i] h D ok (P _ (List.getElem_mem d)) (M _ (List.getElem_mem e));rw[pR d e]at a;repeat' ((first|refine ay ?_|refine aP z ?_|refine aP A ?_|refine ld u ?_|refine ld v ?_|refine aO y ?_)<;>conv=>whnf)
  apply cq<;>intro b;all_goals conv=>whnf
  ·exact⟨fin (by rw[a,b];rfl),rfl⟩
  refine av ?_;conv=>whnf
  refine cT (i+1) ⟨O,by rw[a,b];rfl⟩ O rfl
 have x:i=s.locals.length:=by omega
 subst x;rw[wR,Bool.true_and]at a;have I:yF cs s r=gq cs (s.stack.drop 0) (r.stack.drop 0):=a;refine eu [0,4,5,8] [4,5] (λi:Nat=>i<=s.stack.length/\yF cs s r=gq cs (s.stack.drop i) (r.stack.drop i)) (λi=>s.stack.length-i)
  (λi=>([.v (.slice p n c),.l 4 0,.l 5 0,.v (.int .i64 i)],[some [.bool s.told,.slice lp s.locals.length q,.slice o s.stack.length m],some [.bool r.told,.slice mp r.locals.length mc,.slice j r.stack.length g]],h)) 0 ⟨O,I⟩ rfl ?_
 rintro i ⟨J,a⟩;conv=>whnf
 apply aD<;>intro w;all_goals conv=>whnf
 ·have d:i < s.stack.length:=by omega
  have e:i < r.stack.length:=by omega
  obtain⟨E,R,z,u⟩:=f.2.at d;obtain⟨F,S,A,v⟩:=C.2.at e;have y:=rZ p n c cs s.stack[i] r.stack[i] h D ok (Q _ (List.getElem_mem d)) (N _ (List.getElem_mem e));rw[pR d e]at a;repeat' ((first|refine ay ?_|refine aP z ?_|refine aP A ?_|refine ld u ?_|refine ld v ?_|refine aO y ?_)<;>conv=>whnf)
  apply cq<;>intro b;all_goals conv=>whnf
  ·exact⟨fin (by rw[a,b];rfl),rfl⟩
  refine av ?_;conv=>whnf
  refine cT (i+1) ⟨O,by rw[a,b];rfl⟩ O rfl
 have x:i=s.stack.length:=by omega
 subst x;rw[wR]at a;exact⟨fin a,rfl⟩
theorem C8 {cs:List dH} (ok:cn cs):∀(k:Nat) {a:Int},a.toNat < k->0<=a->a < cs.length->up cs a 0=true
 | 0,a,h,_,_=>by omega
 | k+1,a,h,h0,hl=>by
  rw[fR ok h0 hl];by_cases e:a=0
  ·simp[e]
  have c:a.toNat < cs.length:=by omega
  have b:=ok.2.2 a.toNat c;have f:bC cs a=cs[a.toNat].bO:=by have:=jK c;rwa [show((a.toNat:Nat):Int)=a by omega]at this
  have i:=ok.bO h0 hl;have d:0<=bC cs a:=by
   rw[f];rcases Nat.lt_trichotomy a.toNat 1 with g|g|g
   ·omega
   ·rw[(b.2.2.1 g).1];omega
   exact(b.2.2.2.1 g).1
  have:=C8 ok k (a:=bC cs a) O d O;simp[this]
theorem GL {cs:List dH} (ok:cn cs) {a:Int} (h0:0 < a) (e:a < cs.length):0<=bC cs a:=by
 have c:a.toNat < cs.length:=by omega
 have b:=ok.2.2 a.toNat c;have d:bC cs a=cs[a.toNat].bO:=by have:=jK c;rwa [show((a.toNat:Nat):Int)=a by omega]at this
 rw[d];rcases Nat.lt_trichotomy a.toNat 1 with g|g|g
 ·omega
 ·rw[(b.2.2.1 g).1];omega
 exact(b.2.2.2.1 g).1
theorem GM (p:Option Addr) (n c:Nat) (cs:List dH) (a b:Int) (h:Heap) (e:eD h (.slice p n c) cs) (ok:cn cs) (q:0<=a/\a < cs.length) (d:0<=b/\b < cs.length) :
  bI prog 203 [.slice p n c,.int .i64 a,.int .i64 b] h λv h'=>h'=h/\∃ j,v=.int .i64 j/\0<=j/\j<=a:=by
 have A:=e.n;refine bT aB func203 S2 U rfl ?_;conv=>whnf
 refine eu [0,1,2] [] (λj:Int=>0<=j/\j<=a) (λj=>j.toNat) (λj=>([.v (.slice p n c),.v (.int .i64 j),.v (.int .i64 b)],[],h)) a ⟨q.1,O⟩ rfl ?_;rintro j ⟨f,t⟩;conv=>whnf
 refine ax (pE p n c cs b j h e ok O d.2 f) ?_;conv=>whnf
 apply cq<;>intro g;all_goals conv=>whnf
 ·have s:0 < j:=by
   rcases Int.lt_or_le 0 j with i|i
   ·exact i
   have:j=0:=by omega
   rw[this,C8 ok (b.toNat+1) O d.1 d.2]at g;cases g
  have m:j.toNat < cs.length:=by omega
  obtain⟨y,C,D,k,z,u,_,o,_⟩:=e.at m;have w:bC cs j=cs[j.toNat].bO:=by have:=jK m;rwa [show((j.toNat:Nat):Int)=j by omega]at this
  rw[<-w]at o;have B:=ok.bO f O;have x:=GL ok s O;repeat' ((first|refine aP u ?_|refine ld o ?_|refine ay ?_|refine av ?_|refine ptr ?_)<;>conv=>whnf)
  exact cT (bC cs j) ⟨x,O⟩ O rfl
 exact⟨rfl,j,rfl,f,t⟩
def kJ (t:Int):Nat:=if t=0 then 0 else if t=1 then 1 else if t=2 then 10 else if t < 8 then 2 else (t-7).toNat
def jo (cs:List dH) (a r:Int):Prop:=(0<=r/\r < 8+(cs.length:Int))/\kJ r<=kJ a/\(gU cs r a=false->kJ r < kJ a)
theorem Jh {cs:List dH} (ok:cn cs) {a b:Int} (m:0<=a/\a < 8+(cs.length:Int)) (o:0<=b/\b < 8+(cs.length:Int)) (h:gU cs a b=true):kJ b<=kJ a/\(b≠a->kJ b < kJ a):=by
 have p:=ok.2.1;unfold gU at h;by_cases f:a=b\/b=0
 ·rcases f with rfl|rfl
  ·exact⟨Nat.le_refl _,λe=>absurd rfl e⟩
  refine⟨by simp[kJ],λe=>?_⟩;unfold kJ;rw[if_pos rfl,if_neg (λh=>e h.symm)];split
  ·omega
  split
  ·omega
  split<;>omega
 rw[if_neg f]at h;by_cases c:a=2
 ·rw[if_pos c]at h;simp at h;unfold kJ;subst c;have:¬b=0/\¬b=1/\¬b=2:=by omega
  rw[if_neg this.1,if_neg this.2.1,if_neg this.2.2];split
  ·simp
  simp;omega
 rw[if_neg c]at h;by_cases g:a < 2\/b < 8
 ·rw[if_pos g]at h;cases h
 rw[if_neg g]at h;have d:¬b=0/\¬b=1/\¬b=2/\¬b < 8:=by omega
 have j:¬a=0/\¬a=1:=by omega
 unfold kJ;rw[if_neg d.1,if_neg d.2.1,if_neg d.2.2.1,if_neg d.2.2.2,if_neg j.1,if_neg j.2,if_neg c];by_cases i:a < 8
 ·rw[if_pos i]at h ⊢;simp at h;omega
 rw[if_neg i]at h ⊢;have hle:=KB ok O h;omega
theorem jD (cs:List dH) (a:Int):gU cs a a=true:=by simp[gU]
theorem Ea (p:Option Addr) (n c:Nat) (cs:List dH) (a b:Int) (h:Heap) (q:eD h (.slice p n c) cs) (ok:cn cs) (i:0<=a/\a < 8+(cs.length:Int)) (m:0<=b/\b < 8+(cs.length:Int)) :
  bI prog 202 [.slice p n c,.int .i64 a,.int .i64 b] h λv h'=>h'=h/\∃ r,v=.int .i64 r/\jo cs a r:=by
 have C:=rZ p n c cs a b h q ok i.2 m.2;have D:=rZ p n c cs b a h q ok m.2 i.2;have K:=ok.2.1;have L:=ok.1;refine bT aB func202 S1 U rfl ?_;conv=>whnf
 refine ax C ?_;conv=>whnf
 apply dM<;>intro g;all_goals conv=>whnf
 ·have y:=Jh ok i m g;refine⟨rfl,b,rfl,m,y.1,λd=>y.2 (λe=>?_)⟩;rw[e,jD]at d;cases d
 refine ax D ?_;conv=>whnf
 apply dM<;>intro o;all_goals conv=>whnf
 ·exact⟨rfl,a,rfl,i,Nat.le_refl _,λd=>by rw[jD]at d;cases d⟩
 have zero:jo cs a 0:=by
  refine⟨⟨O,O⟩,by simp[kJ],λd=>?_⟩;have E:¬a=0:=λe=>by rw[e,jD]at d;cases d
  unfold kJ;rw[if_pos rfl,if_neg E];split
  ·omega
  split
  ·omega
  split<;>omega
 refine ax (qu _ _) ?_;conv=>whnf
 apply aU<;>intro A;all_goals conv=>whnf
 ·exact⟨rfl,0,rfl,zero⟩
 refine ax (qu _ _) ?_;conv=>whnf
 apply aU<;>intro B;all_goals conv=>whnf
 ·exact⟨rfl,0,rfl,zero⟩
 have J:b≠2:=λe=>by
  subst e;have:gU cs 2 a=true:=by
   unfold gU;by_cases f:2=a\/a=0
   ·rw[if_pos f]
   rw[if_neg f,if_pos rfl];simp;omega
  rw[this]at o;cases o
 have H:a≠2:=λe=>by
  subst e;have:gU cs 2 b=true:=by
   unfold gU;by_cases f:2=b\/b=0
   ·rw[if_pos f]
   rw[if_neg f,if_pos rfl];simp;omega
  rw[this]at g;cases g
 have t:a < 8\/b < 8->jo cs a 8:=λf=>by
  refine⟨⟨O,O⟩,?_,λd=>?_⟩
  ·unfold kJ;have:¬a=0/\¬a=1/\¬a=2:=by omega
   rw[if_neg this.1,if_neg this.2.1,if_neg this.2.2];simp;split<;>omega
  have I:a≠8:=λe=>by rw[e,jD]at d;cases d
  unfold kJ;have:¬a=0/\¬a=1/\¬a=2:=by omega
  rw[if_neg this.1,if_neg this.2.1,if_neg this.2.2];simp;split<;>omega
 apply aD<;>intro u;all_goals conv=>whnf
 ·exact⟨rfl,8,rfl,t (.inl u)⟩
 apply aD<;>intro w;all_goals conv=>whnf
 ·exact⟨rfl,8,rfl,t (.inr w)⟩
 refine av ?_;conv=>whnf
 refine av ?_;conv=>whnf
 refine aG (GM p n c cs (a-8) (b-8) h q ok O O) (λv G x=>?_);have z:=x.1;subst z;refine x.2.elim λj s=>?_;have F:=s.1;subst F;have M:=s.2.1;have N:=s.2.2;conv=>whnf
 refine av ?_;conv=>whnf
 refine⟨rfl,8+j,rfl,⟨O,O⟩,?_,λd=>?_⟩
 ·unfold kJ;have:¬a=0/\¬a=1/\¬a=2/\¬a < 8/\¬8+j=0/\¬8+j=1/\¬8+j=2/\¬8+j < 8:=by omega
  rw[if_neg this.1,if_neg this.2.1,if_neg this.2.2.1,if_neg this.2.2.2.1,if_neg this.2.2.2.2.1,if_neg this.2.2.2.2.2.1,if_neg this.2.2.2.2.2.2.1,if_neg this.2.2.2.2.2.2.2];omega
 have P:8+j≠a:=λe=>by rw[e,jD]at d;cases d
 unfold kJ;have:¬a=0/\¬a=1/\¬a=2/\¬a < 8/\¬8+j=0/\¬8+j=1/\¬8+j=2/\¬8+j < 8:=by omega
 rw[if_neg this.1,if_neg this.2.1,if_neg this.2.2.1,if_neg this.2.2.2.1,if_neg this.2.2.2.2.1,if_neg this.2.2.2.2.2.1,if_neg this.2.2.2.2.2.2.1,if_neg this.2.2.2.2.2.2.2];omega
theorem oX.zY {h h':Heap} {p:Option Addr} {n c:Nat} {a t:List Int} {B1 e:List Nat} {u:Value} (s:oX h h' (.slice p n c) a B1 u t e) {i:Nat} (z:i < a.length) :
  ∃ b,p=some ⟨b,0,none⟩/\rd h' b (0+i*1)=some (.int .i64 a[i])/\∀(x:Int) (K:Heap->Prop),(∀ j,oX h j (.slice p n c) (a.set i x) B1 u t e->K j)->St h' b (0+i*1) [.int .i64 x] K:=by
 have B:a=a.take i++a[i]::a.drop (i+1):=by simp
 have D:bW 1 h' (.slice p n c) ((a.take i).map bP++bP a[i]::(a.drop (i+1)).map bP) B1:=by
  have:=s.o1;unfold dI at this;rw[show a.map bP=(a.take i).map bP++bP a[i]::(a.drop (i+1)).map bP by rw[<-List.map_cons,<-List.map_append,<-B]]at this;exact this
 obtain⟨d,I,pre,post,M,q,o,E,_,f,H⟩:=D.at;simp only[Value.slice.injEq]at q;obtain⟨rfl,J,rfl⟩:=q;have F:pre.length=i:=by rw[E];simp;omega
 have y:d ∉ e:=λG=>by
  have:=s.nd d;have:=List.count_pos_iff.2 G;simp only[f,List.count_append,List.count_cons,List.count_nil,beq_self_eq_true,if_true]at *;omega
 refine⟨d,rfl,bA o (i:=0) O rfl,λx K A=>?_⟩;refine vI o (pre++bP x++post) (by simp[F,bP]<;>omega) (jN (x':=bP x) O rfl) (λm g v=>A m ⟨?_,?_,?_,s.nd,s.fr⟩)
 ·rw[g];exact Heap.aR s.le (s.fr d (by rw[f];simp))
 ·have:=H m (bP x) v rfl;unfold dI;rw[show(a.set i x).map bP=(a.take i).map bP++bP x::(a.drop (i+1)).map bP by rw[List.set_eq_take_append_cons_drop,if_pos z,List.map_append,List.map_cons]];rw[f]at this ⊢;exact this
 exact s.o2.aJ λb w L C=>by
  have:b≠d:=by rintro rfl;exact y w
  rw[g];simp only[Heap.set,this,if_false];exact C
theorem oX.PB {h h':Heap} {p:Option Addr} {n c:Nat} {f d:List Int} {B1 e:List Nat} {g:Value} (s:oX h h' g f B1 (.slice p n c) d e) {i:Nat} (m:i < d.length) :
  ∃ b,p=some ⟨b,0,none⟩/\rd h' b (0+i*1)=some (.int .i64 d[i])/\∀(x:Int) (K:Heap->Prop),(∀ a,oX h a g f B1 (.slice p n c) (d.set i x) e->K a)->St h' b (0+i*1) [.int .i64 x] K:=by
 obtain⟨b,j,r,k⟩:=s.swap.zY m;exact⟨b,j,r,λx K o=>k x K (λa q=>o a q.swap)⟩
theorem C9 {K:Value->Heap->Prop} {E:List PanicEntry->Heap->Prop} {p:Option Addr} {n c:Nat} {cs:List dH} {a b:Int} {h:Heap} (g:eD h (.slice p n c) cs) (ok:cn cs) (e:0<=a/\a < 8+(cs.length:Int)) (f:0<=b/\b < 8+(cs.length:Int)) (d:∀ r,jo cs a r->K (.int .i64 r) h):fE prog 202 [.slice p n c,.int .i64 a,.int .i64 b] h K E :=
 cO (Ea p n c cs a b h g ok e f) (λv m i=>by
  obtain⟨rfl,r,rfl,j⟩:=i;exact⟨Heap.le_refl _,d r j⟩)
def KM (cs:List dH) (a r:dF):Prop:=r=j6\/(r.told=a.told/\r.locals.length=a.locals.length/\r.stack.length=a.stack.length/\(∀ i (b:i < a.locals.length) (c:i < r.locals.length),jo cs a.locals[i] r.locals[i])/\∀ i (b:i < a.stack.length) (c:i < r.stack.length),jo cs a.stack[i] r.stack[i])
def vY (h:Heap) (v:Value) (r:dF):Prop:=∃ c a d b,v=.agg #[.bool r.told,.slice c r.locals.length a,.slice d r.stack.length b]/\oN h r c d a b
theorem GN {h h':Heap} {v:Value} (c:h.le h'/\∃ a b,v=.agg #[.bool false,.slice (some ⟨a,0,none⟩) 0 0,.slice (some ⟨b,0,none⟩) 0 0]):h.le h'/\vY h' v j6:=by
 obtain⟨d,a,b,rfl⟩:=c;exact⟨d,_,_,_,_,rfl,fO _ _ _,fO _ _ _⟩
theorem jo.refl {cs:List dH} {a:Int} (c:0<=a/\a < 8+(cs.length:Int)):jo cs a a:=⟨c,Nat.le_refl _,λb=>by rw[jD]at b;cases b⟩
theorem Eb (p:Option Addr) (n c:Nat) (cs:List dH) (s r:dF) (lp D mp M:Option Addr) (E C mc L:Nat) (h:Heap) (hcs:eD h (.slice p n c) cs) (ok:cn cs) (G:oN h s lp D E C) (hJ:oN h r mp M mc L) (hl:s.locals.length<=r.locals.length) (vW:s.locals.length<=1000) (oU:s.stack.length<=1000)
  (DZ:∀ t∈s.locals,0<=t/\t < 8+(cs.length:Int)) (IX:∀ t∈s.stack,0<=t/\t < 8+(cs.length:Int)) (Ji:∀ t∈r.locals,0<=t/\t < 8+(cs.length:Int)) (PC:∀ t∈r.stack,0<=t/\t < 8+(cs.length:Int)) :
  bI prog 199 [.slice p n c,.agg #[.bool s.told,.slice lp s.locals.length E,.slice D s.stack.length C],.agg #[.bool r.told,.slice mp r.locals.length mc,.slice M r.stack.length L]] h λv h'=>h.le h'/\∃ x,vY h' v x/\KM cs s x:=by
 have nL:=sA s.told lp D E C s.locals s.stack h G.1 G.2 O O;have vL:=ok.2.1;have PD:∀ {t:Int},0<=t->t < 8+(cs.length:Int)->cH t:=λh0 b=>by unfold cH;omega
 refine bT aB func199 SZ U rfl ?_;conv=>whnf
 refine aG nL (λv b a=>?_);refine a.elim λw a=>a.elim λq a=>a.elim λy a=>a.elim λu a=>a.elim λB1 a=>a.elim λB2 a=>?_;have hv:=a.1;subst hv;have st:=a.2;conv=>whnf
 apply aU<;>intro aa;all_goals conv=>whnf
 ·refine aG (iB b) (λv d a=>?_);have B:=GN a;refine a.2.elim λQ f=>f.elim λR f=>?_;subst f;conv=>whnf
  exact⟨Heap.le_trans st.le B.1,j6,B.2,.inl rfl⟩
 have hk:s.stack.length=r.stack.length:=by omega
 refine eu [0,4,5,6,7,8] [4,5,6,7] (λx:Nat × Heap × List Int=>x.1<=s.locals.length/\x.2.2.length=s.locals.length/\oX h x.2.1 (.slice w s.locals.length q) x.2.2 B1 (.slice y s.stack.length u) s.stack B2/\∀ j (b:j < s.locals.length) (d:j < x.2.2.length),jo cs s.locals[j] x.2.2[j]) (λx=>s.locals.length-x.1)
  (λx=>([.v (.slice p n c),.l 4 0,.l 5 0,.l 6 0,.l 7 0,.v (.int .i64 x.1)],[some [.bool s.told,.slice lp s.locals.length E,.slice D s.stack.length C],some [.bool r.told,.slice mp r.locals.length mc,.slice M r.stack.length L],some [.bool false,.slice none 0 0,.slice none 0 0],some [.bool s.told,.slice w s.locals.length q,.slice y s.stack.length u]],x.2.1))
  (0,b,s.locals) ⟨O,rfl,st,λj b d=>jo.refl (DZ _ (List.getElem_mem b))⟩ rfl ?_
 rintro⟨i,d,F⟩ ⟨W,K,o,H⟩;simp only at W K o H ⊢;conv=>whnf
 apply aD<;>intro T;all_goals conv=>whnf
 ·have z:i < s.locals.length:=by omega
  have A:i < r.locals.length:=by omega
  obtain⟨Q,o1,w1,N⟩:=(G.1.le o.le).at z;obtain⟨R,o2,w2,P⟩:=(hJ.1.le o.le).at A;obtain⟨b3,w3,_,put⟩:=o.zY (i:=i) O;have V:=hcs.le o.le (λ_ _ g=>g.le o.le);repeat' ((first|exact trivial|apply And.intro|refine ay ?_|refine aP w1 ?_|refine aP w2 ?_|refine aP w3 ?_|refine ld N ?_|refine ld P ?_|refine C9 V ok (DZ _ (List.getElem_mem z)) (Ji _ (List.getElem_mem A)) (λx g=>?_))<;>conv=>whnf)
  all_goals
   refine put x _ (λh3 e=>?_);conv=>whnf
   refine av ?_;conv=>whnf
   refine cT (i+1,h3,F.set i x) ⟨by simp only;omega,by simpa using K,e,λj b d=>?_⟩ (by simp only;omega) rfl;simp only;rw[List.getElem_set];split
   ·rename_i S;subst S;exact g
   exact H j b (by simpa using d)
 have X:i=s.locals.length:=by omega
 subst X;refine eu [0,4,5,6,7,9] [4,5,6,7] (λx:Nat × Heap × List Int=>x.1<=s.stack.length/\x.2.2.length=s.stack.length/\oX h x.2.1 (.slice w s.locals.length q) F B1 (.slice y s.stack.length u) x.2.2 B2/\∀ j (b:j < s.stack.length) (d:j < x.2.2.length),jo cs s.stack[j] x.2.2[j]) (λx=>s.stack.length-x.1)
  (λx=>([.v (.slice p n c),.l 4 0,.l 5 0,.l 6 0,.l 7 0,.v (.int .i64 x.1)],[some [.bool s.told,.slice lp s.locals.length E,.slice D s.stack.length C],some [.bool r.told,.slice mp r.locals.length mc,.slice M r.stack.length L],some [.bool false,.slice none 0 0,.slice none 0 0],some [.bool s.told,.slice w s.locals.length q,.slice y s.stack.length u]],x.2.1))
  (0,d,s.stack) ⟨O,rfl,o,λj b d=>jo.refl (IX _ (List.getElem_mem b))⟩ rfl ?_
 rintro⟨i,h3,m⟩ ⟨W,J,e,I⟩;simp only at W J e I ⊢;conv=>whnf
 apply aD<;>intro T;all_goals conv=>whnf
 ·have z:i < s.stack.length:=by omega
  have A:i < r.stack.length:=by omega
  obtain⟨Q,o1,w1,N⟩:=(G.2.le e.le).at z;obtain⟨R,o2,w2,P⟩:=(hJ.2.le e.le).at A;obtain⟨b3,w3,_,put⟩:=e.PB (i:=i) O;have V:=hcs.le e.le (λ_ _ g=>g.le e.le);repeat' ((first|exact trivial|apply And.intro|refine ay ?_|refine aP w1 ?_|refine aP w2 ?_|refine aP w3 ?_|refine ld N ?_|refine ld P ?_|refine C9 V ok (IX _ (List.getElem_mem z)) (PC _ (List.getElem_mem A)) (λx g=>?_))<;>conv=>whnf)
  all_goals
   refine put x _ (λh4 UI=>?_);have UJ:∀ j (b:j < s.stack.length) (d:j < (m.set i x).length),jo cs s.stack[j] (m.set i x)[j]:=λj b d=>by
    rw[List.getElem_set];split
    ·rename_i S;subst S;exact g
    exact I j b (by simpa using d)
   have UK:i < (m.set i x).length:=by simp;omega
   refine(UI.PB UK).elim λb4 hp=>?_;have w4:=hp.1;have r4:=hp.2.1;conv=>whnf
   repeat' ((first|refine aP w4 ?_|refine ld r4 ?_|refine ay ?_|refine av ?_|refine ptr ?_)<;>conv=>whnf)
   apply aD<;>intro g0;all_goals conv=>whnf
   ·refine aG (iB h4) (λv h5 a=>?_);have B:=GN a;refine a.2.elim λQ f=>f.elim λR f=>?_;subst f;conv=>whnf
    exact⟨Heap.le_trans UI.le B.1,j6,B.2,.inl rfl⟩
   refine av ?_;conv=>whnf
   exact cT (i+1,h4,m.set i x) ⟨by simp only;omega,by simpa using J,UI,UJ⟩ (by simp only;omega) rfl
 have X:i=s.stack.length:=by omega
 subst X;have il:∀ t∈F,cH t:=λt ht=>by
  obtain⟨j,Y,rfl⟩:=List.mem_iff_getElem.1 ht;have:=(H j O Y).1;exact PD this.1 this.2
 have ik:∀ t∈m,cH t:=λt ht=>by
  obtain⟨j,Y,rfl⟩:=List.mem_iff_getElem.1 ht;have:=(I j O Y).1;exact PD this.1 this.2
 have r1:=(eC e.o1 O il).2;have r2:=(eC e.o2 O ik).2;refine⟨e.le,⟨s.told,F,m⟩,⟨w,q,y,u,?_,r1,r2⟩,.inr ⟨rfl,K,J,H,I⟩⟩;show _=Value.agg #[.bool s.told,.slice w F.length q,.slice y m.length u];rw[K,J]
structure MJ (u:aS) (m:cu):Prop where
 head:eW u.aq.length m
 len:1<=m.code.length/\m.code.length<=12
 code:∀ x∈m.code,ej u m x
 cat:kT u m
theorem pS {n:Nat} {m:cu} (h:eW n m) (d:n<=5):∀ t∈cj m,0<=t/\t < 8+(n:Int):=by
 intro t a;unfold cj at a;rcases List.mem_append.1 a with a|a
 ·split at a
  ·rename_i c;rw[List.mem_singleton.1 a];rcases h.1 with b|b
   ·omega
   omega
  cases a
 have:=fh (h.2.2.2.1 t a);omega
theorem BZ (us A:List Value) (m:cu) (n:Nat) (h:Heap) (E:dO h A m) (i:eW n m) (F:n<=5) :
  bI prog 156 [.agg ⟨A⟩] h λv h'=>h.le h'/\∃ p c B,v=.slice p (cj m).length c/\dI h' (.slice p (cj m).length c) (cj m) B/\∀ b∈B,h b=none:=by
 obtain⟨p1,P,p2,Q,p3,R,p4,S,rfl,k1,k2,k3,k4,o,k6,k7,k8,d1,d2,d3,d4⟩:=E.form;have G:=pS i F;have X:=i.2.1;have H:=pQ o;have Bz:=sk (m:=m);refine bT aB func156 Sk U rfl ?_;conv=>whnf
 refine dn [] rfl (λN x y T q w=>?_);conv=>whnf
 apply aD<;>intro g;all_goals conv=>whnf
 ·have Y:m.cls < 6:=by
   rcases i.1 with x|x
   ·omega
   omega
  refine av ?_;conv=>whnf
  refine iW (l:=[]) (k:=[8+m.cls]) (dL w) (by simpa using y) q rfl Z (λt d=>by simp at d;unfold cH;omega) (λq2 V W M z J r2 I=>?_);conv=>whnf
  refine zU z o ?_;conv=>whnf
  have a:([]++[8+m.cls])++m.args=cj m:=by unfold cj;rw[if_pos g];rfl
  refine iW (l:=[]++[8+m.cls]) J I z rfl (by simp;omega) (λt d=>by
   rw[a]at d;have:=G t d;unfold cH;omega) (λK C D f s e L u=>?_)
  conv=>whnf
  have j:([]++[8+m.cls]:List Int).length+m.args.length=(cj m).length:=by rw[<-a];simp;omega
  rw[j,a]at e;rw[a];exact⟨s,_,_,f,rfl,e,u⟩
 refine zU q o ?_;conv=>whnf
 have a:[]++m.args=cj m:=by unfold cj;rw[if_neg g]
 refine iW (l:=[]) (dL w) (by simpa using y) q rfl (by simp;omega) (λt d=>H t (by simpa using d)) (λK C D f s e L u=>?_);conv=>whnf
 have j:([]:List Int).length+m.args.length=(cj m).length:=by rw[<-a];simp
 rw[j,a]at e;rw[a];exact⟨s,_,_,f,rfl,e,u⟩
def gL (m:cu):dF:=⟨true,cj m++List.replicate (m.locals.toNat-(cj m).length) 0,[]⟩
theorem qX {n:Nat} {m:cu} (h:eW n m) (b:n<=5):qW n m.locals (gL m):=by
 have c:=h.2.2.2.2.2;refine⟨by simp[gL];omega,λt a=>?_,λt a=>by simp[gL]at a,by simp[gL]⟩;rcases List.mem_append.1 a with a|a
 ·exact pS h b t a
 rw[List.eq_of_mem_replicate a];omega
theorem pT (us o:List Value) (m:cu) (n:Nat) (h:Heap) (s:dO h o m) (c:eW n m) (g:n<=5) :
  bI prog 125 [.agg ⟨o⟩] h λv h'=>h.le h'/\vY h' v (gL m):=by
 have Q:=BZ us o m n h s c g;obtain⟨p1,E,p2,F,p3,G,p4,H,rfl,k1,k2,k3,k4,k5,k6,k7,k8,d1,d2,d3,d4⟩:=s.form;have X:=pS c g;have Bz:=c.2.2.2.2.2;have we:=c.2.2.2.2.1;refine bT aB func125 RW U rfl ?_;conv=>whnf
 refine aG Q (λv h1 q=>?_);refine q.2.elim λq1 b=>b.elim λI b=>b.elim λp b=>?_;have Y:=b.1;subst Y;have A:=b.2.1;have n1:=b.2.2;have l1:=q.1;conv=>whnf
 refine dn [] rfl (λd M P W2 y g3=>?_);have aaj:d ∉ p:=λhx=>by obtain⟨aa,u⟩:=A.in d hx;rw[P]at u;cases u
 conv=>whnf
 have e0:(cj m).length=(cj m++List.replicate 0 (0:Int)).length:=by simp
 refine eu [1,2,3] [1,2,3] (λx:Nat × Heap × Option Addr × Nat × List Nat=>((cj m).length:Int)+x.1<=m.locals/\h.le x.2.1/\dI x.2.1 (.slice x.2.2.1 ((cj m).length+x.1) x.2.2.2.1) (cj m++List.replicate x.1 0) x.2.2.2.2/\∀ D∈x.2.2.2.2,h D=none) (λx=>m.locals.toNat-((cj m).length+x.1))
  (λx=>([.l 1 0,.l 2 0,.l 3 0],[some [.int .i64 m.cls,.int .i64 m.er,.slice p1 m.args.length E,.int .i64 m.out,.int .i64 m.locals,.slice p2 m.code.length F,.slice p3 m.aT.length G,.slice p4 m.catches.length H],some [.bool false,.slice none 0 0,.slice none 0 0],some [.bool true,.slice x.2.2.1 ((cj m).length+x.1) x.2.2.2.1,.slice (some ⟨d,0,none⟩) 0 0]],x.2.1))
  (0,M,q1,I,p) ⟨by simp;omega,Heap.le_trans l1 y,by simpa using A.aJ (cD.of_le y _),n1⟩ rfl ?_
 rintro⟨j,h5,q5,J,B5⟩ ⟨R,i,f,z⟩;simp only at R i f z ⊢;conv=>whnf
 apply aD<;>intro L;all_goals conv=>whnf
 ·have CZ:(cj m++List.replicate j (0:Int)).length=(cj m).length+j:=by simp
  refine iW (l:=cj m++List.replicate j 0) (k:=[0]) f z i rfl (by simp;omega) (λt a=>by
   simp only[List.mem_append,List.mem_singleton]at a;rcases a with (a|a)|rfl
   ·have:=X t a;unfold cH;omega
   ·rw[List.eq_of_mem_replicate a];unfold cH;omega
   unfold cH;omega) (λq6 K N C l6 B r6 n6=>?_)
  have W:(cj m++List.replicate j (0:Int))++[0]=cj m++List.replicate (j+1) 0:=by rw[List.replicate_succ',List.append_assoc]
  have T:((cj m++List.replicate j (0:Int))++[0]).length=(cj m).length+(j+1):=by simp<;>omega
  have V:(cj m++List.replicate j (0:Int)).length + [(0:Int)].length=(cj m).length+(j+1):=by simp<;>omega
  rw[V,W]at B;rw[T];conv=>whnf
  exact cT (j+1,N,q6,K,C) ⟨by simp only;omega,l6,B,n6⟩ (by simp only;omega) rfl
 have S:j=m.locals.toNat-(cj m).length:=by omega
 have w:(gL m).locals=cj m++List.replicate j 0:=by rw[S];rfl
 have e:(gL m).locals.length=(cj m).length+j:=by rw[w];simp
 refine⟨i,q5,J,some ⟨d,0,none⟩,0,?_,?_,fO _ _ _⟩
 ·rw[e];rfl
 rw[e];rw[<-w]at f;have:=(eC f (by rw[e];omega) (λt a=>by
  have:=(qX c g).nK t a;unfold cH;omega)).2
 rw[e]at this;exact this
def dG (i:dc):Bool:=decide (8<=i.kind/\i.kind<=11)
def jq (i:dc):Bool:=decide (i.kind=11\/i.kind=22\/i.kind=23)
theorem iC (k a b:Int) (h:Heap):Pure prog 124 [.agg #[.int .i64 k,.int .i64 a,.int .i64 b]] h (.bool (dG ⟨k,a,b⟩)):=by
 refine fD aB func124 RV U rfl ?_;conv=>whnf
 refine ax (de _ _ _ _) ?_;conv=>whnf
 exact⟨rfl,rfl⟩
theorem lF (k a b:Int) (h:Heap):Pure prog 130 [.agg #[.int .i64 k,.int .i64 a,.int .i64 b]] h (.bool (jq ⟨k,a,b⟩)):=by
 have e:jq ⟨k,a,b⟩=decide (k=11\/k=22\/k=23):=rfl;rw[e];refine fD aB func130 R1 U rfl ?_;conv=>whnf
 apply aD<;>intro g;all_goals conv=>whnf
 ·exact⟨by simp[g],rfl⟩
 apply aD<;>intro c;all_goals conv=>whnf
 ·exact⟨by simp[c],rfl⟩
 exact⟨by simp[g,c],rfl⟩
def eo (c:Int) (s:dF):dF:=⟨true,s.locals,[8+c]⟩
theorem nM (F B to cls:Int) (s:dF) (lp u:Option Addr) (w q:Nat) (h:Heap) (j:oN h s lp u w q) (P:s.locals.length<=1000) (N:0<=cls/\cls<=100) :
  bI prog 163 [.agg #[.int .i64 F,.int .i64 B,.int .i64 to,.int .i64 cls],.agg #[.bool s.told,.slice lp s.locals.length w,.slice u s.stack.length q]] h λv h'=>h.le h'/\vY h' v (eo cls s):=by
 have i1:=pQ j.1;have st:=oX.start h;have A:=j.1;have y:s.locals.length<=1000000:=by omega
 have fin:∀ {h':Heap} {p1 c1 b c B2},oX h h' (.slice p1 s.locals.length c1) s.locals c (.slice (some ⟨b,0,none⟩) 1 1) [8+cls] B2->h.le h'/\vY h' (.agg #[.bool true,.slice p1 s.locals.length c1,.slice (some ⟨b,0,none⟩) 1 1]) (eo cls s):=λst=>by
  have G:=(eC st.o1 O i1).2;have H:=(eC st.o2 Z (λt D=>by rw[List.mem_singleton.1 D];unfold cH;omega)).2;exact⟨st.le,_,_,_,_,rfl,G,H⟩
 have GG:∀ {h':Heap} {g e c} {f:TypeId} {vs:List Value} {K:Nat->Heap->Prop},oX h h' g e c (.slice none 0 0) [] []->vs=[.int .i64 (8+cls)]->(∀ b d,oX h d g e c (.slice (some ⟨b,0,none⟩) 1 1) [8+cls] [b]->K b d)->EF h' vs f K:=λ{h' g e c f vs K} s E C=>by
  subst E;refine dn [.int .i64 (8+cls)] rfl (λb d m M l z=>C b d ⟨Heap.le_trans s.le l,s.o1.aJ (cD.of_le l _),gz (vs:=[bP (8+cls)]) (t:=f) (by simp[bP]) rfl (by rw[z];rfl),?_,λx a=>?_⟩)
  ·exact Nd.two s.o1.nd (λJ=>by simp only[List.count_cons,List.count_nil];split<;>omega) (λx a o=>by
    rw[List.mem_singleton.1 a]at o;obtain⟨Q,p⟩:=s.o1.in b o;rw[m]at p;cases p)
  rcases List.mem_append.1 a with a|a
  ·exact s.fr x (by simp[a])
  rw[List.mem_singleton.1 a];exact eL s.le m
 refine bT aB func163 Sq U rfl ?_;conv=>whnf
 repeat' ((first|exact trivial|exact fin st|apply And.intro|refine av ?_|refine zU st.le A ?_|refine st.zV rfl y (λR L i I st=>?_)|refine GG st rfl (λb i st=>?_)|refine st.GG rfl (λb i st=>?_))<;>conv=>whnf)
def bh (h:Heap) (b:Nat):Heap:=λx=>if x=b then none else h x
theorem eV (h:Heap) (b:Nat):(bh h b).le h:=λx o a=>by
 unfold bh at a;split at a
 ·cases a
 exact a
theorem bV {h h':Heap} (b:Nat) (c:h.le h'):(bh h b).le (bh h' b):=λx o a=>by
 unfold bh at a ⊢;split
 ·rename_i e;rw[if_pos e]at a;cases a
 rename_i e;rw[if_neg e]at a;exact c x o a
theorem qY {h0 h:Heap} {b:Nat} (d:h0.le h) (c:h0 b=none):h0.le (bh h b):=λx o a=>by
 unfold bh;split
 ·rename_i e;rw[e,c]at a;cases a
 exact d x o a
theorem yl {h h':Heap} {b:Nat} (d:(bh h b).le (bh h' b)) (c:h' b=h b):h.le h':=λx o a=>by
 by_cases e:x=b
 ·rw[e]at a ⊢;rw[c];exact a
 have:=d x o (by unfold bh;rw[if_neg e];exact a);unfold bh at this;rwa [if_neg e]at this
theorem uY (h:Heap) (b:Nat) (o:Obj):bh (h.set b o) b=bh h b:=by
 funext x
 unfold bh;by_cases e:x=b
 ·rw[if_pos e,if_pos e]
 rw[if_neg e,if_neg e];simp[Heap.set,e]
theorem lG {P:Program} {f:FuncId} {args:List Value} {h:Heap} {b:Nat} {o:Obj} {R:Value->Heap->Prop} (p:h b=some o) (u:bI P f args (bh h b) R) :
  bI P f args h λv h'=>h' b=h b/\R v (bh h' b):=by
 intro w i;refine(u w (λj q a=>i j q (eV h b j q a))).mono ?_;rintro e F ⟨d,m,g⟩;have t:=i b o p;have B:b < w.heap.size:=dX t;have s:d b=none:=by
  cases a:d b with
  | none=>rfl
  | some x =>
   rcases m.tG b (by rw[a];simp)with c|c
   ·exact absurd (by simp[bh]) c
   omega
 let h':Heap:=λx=>if x=b then h b else d x
 have z:bh h' b=d:=by
  funext x
  unfold bh;by_cases e:x=b
  ·rw[if_pos e,e,s]
  rw[if_neg e];simp[h',e]
 have E:cK h w h' F:=by
  refine⟨λx y a=>?_,λx a C=>?_,λx a=>?_,m.size,m.fz,m.out⟩
  ·by_cases e:x=b
   ·subst e;have A:=m.aJ x B (by simp[bh]);simp only[h',if_true]at a;rw[A];exact i x y a
   simp only[h',e,if_false]at a;exact m.view x y a
  ·have D:bh h b x=none:=by
    unfold bh;by_cases e:x=b
    ·rw[if_pos e]
    rw[if_neg e];exact C
   exact m.aJ x a D
  by_cases e:x=b
  ·subst e;left;rw[p];simp
  simp only[h',e,if_false]at a;rcases m.tG x a with c|c
  ·left;unfold bh at c;rwa [if_neg e]at c
  exact .inr c
 refine⟨h',E,?_⟩;cases e with
 | returned v=>exact⟨by simp[h'],by rw[z];exact g⟩
 | panicked G=>exact g.elim
 | outgrown=>exact g.elim
theorem jf {P:Program} {f:FuncId} {args:List Value} {h:Heap} {b:Nat} {o:Obj} {K:Value->Heap->Prop} {E:List PanicEntry->Heap->Prop} {R:Value->Heap->Prop} (c:h b=some o) (d:bI P f args (bh h b) λv h'=>(bh h b).le h'/\R v h')
  (e:∀ v h',h.le h'->R v (bh h' b)->K v h'):Go.Vc.Call P f args h K E:=aG (lG c d) λv h' a=>e v h' (yl a.2.1 a.1) a.2.2
theorem Da {P:Program} {f:FuncId} {args:List Value} {h:Heap} {b:Nat} {o:Obj} {K:Value->Heap->Prop} {E:List PanicEntry->Heap->Prop} {R:Value->Heap->Prop} (c:h b=some o) (d:bI P f args (bh h b) λv h'=>(bh h b).le h'/\R v h')
  (e:∀ v h',h.le h'->R v (bh h' b)->K v h'):fE P f args h K E:=cO (lG c d) λv h' a=>⟨yl a.2.1 a.1,e v h' (yl a.2.1 a.1) a.2.2⟩
structure fY (h0 h:Heap) (b c:Nat) (A:List dF):Prop where
 le:h0.le h
 fr:h0 b=none
 row:∃ recs,bW 3 h (.slice (some ⟨b,0,none⟩) A.length c) recs [b]/\recs.length=A.length/\∀ i (h1:i < recs.length) (h2:i < A.length),jJ (bh h b) recs[i] A[i]
theorem fY.hle {h0 h:Heap} {b c:Nat} {A:List dF} (a:fY h0 h b c A):h0.le (bh h b):=qY a.le a.fr
theorem fY.in {h0 h:Heap} {b c:Nat} {A:List dF} (a:fY h0 h b c A):∃ o,h b=some o:=by
 obtain⟨e,d,_⟩:=a.row;exact d.in b Z
theorem fY.aJ {h0 h h':Heap} {b c:Nat} {A:List dF} (a:fY h0 h b c A) (d:h.le h'):fY h0 h' b c A:=by
 obtain⟨o,i,g,j⟩:=a.row;exact⟨Heap.le_trans a.le d,a.fr,o,i.aJ (cD.of_le d _),g,λm e f=>(j m e f).le (bV b d)⟩
theorem fY.at {h0 h:Heap} {b c:Nat} {A:List dF} (a:fY h0 h b c A) {i:Nat} (G:i < A.length) :
  ∃ m f o g,dQ h b (0+i*3) 3=some [.bool A[i].told,.slice m A[i].locals.length f,.slice o A[i].stack.length g]/\rd h b (0+i*3)=some (.bool A[i].told)/\oN (bh h b) A[i] m o f g /\
   ∀(vs:List Value) (s:dF) (K:Heap->Prop),jJ (bh h b) vs s->(∀ e,bh e b=bh h b->fY h0 e b c (A.set i s)->K e)->St h b (0+i*3) vs K:=by
 obtain⟨d,J,I,B⟩:=a.row;have w:i < d.length:=by omega
 have H:d=d.take i++d[i]::d.drop (i+1):=by simp
 have L:bW 3 h (.slice (some ⟨b,0,none⟩) A.length c) (d.take i++d[i]::d.drop (i+1)) [b]:=by rw[<-H];exact J
 obtain⟨S,T,pre,post,X,z,j,M,W,V,R⟩:=L.at;simp only[Value.slice.injEq,Option.some.injEq,Addr.mk.injEq]at z;obtain⟨⟨rfl,_⟩,_,rfl⟩:=z;have q:pre.length=i*3:=by rw[M];simp;omega
 obtain⟨l,k,P,y,x⟩:=B i w G;have f1:=y.len;obtain⟨m,f,rfl,_,_⟩:=f1;have f2:=x.len;obtain⟨o,g,rfl,_,_⟩:=f2;rw[P]at j;refine⟨m,f,o,g,?_,?_,⟨y,x⟩,λvs s K C F=>?_⟩
 ·rw[bK j 3 (0+i*3) (by simp[q])];rw[List.append_assoc,Nat.zero_add,<-q,List.drop_left];rfl
 ·exact bA j (i:=0) O rfl
 have t:vs.length=3:=by obtain⟨_,_,rfl,_⟩:=C;rfl
 refine vI j (pre++vs++post) (by simp[q,t]<;>omega) (jN (x':=vs) O (by rw[t];rfl)) (λp u D=>?_);have v:bh p b=bh h b:=by rw[u,uY]
 have N:d.set i vs=d.take i++vs::d.drop (i+1):=by rw[List.set_eq_take_append_cons_drop,if_pos w]
 refine F p v ⟨?_,a.fr,d.set i vs,?_,by simp[I],λQ E e=>?_⟩
 ·rw[u];exact Heap.aR a.le a.fr
 ·rw[N,List.length_set];exact R p vs D t
 rw[v];simp only[List.getElem_set];split
 ·exact C
 exact B Q (by simpa using E) (by simpa using e)
theorem fY.uZ {h0 h:Heap} {b c:Nat} {A:List dF} (a:fY h0 h b c A) (u:A.length<=1000):Row 3 jJ h (.slice (some ⟨b,0,none⟩) A.length c) A:=by
 obtain⟨C,j,v,w⟩:=a.row;obtain⟨x,⟨d,_⟩|⟨m,o,rest,D,d,t,s,_,_⟩⟩:=j
 ·cases d
 simp only[Value.slice.injEq,Option.some.injEq,Addr.mk.injEq]at d;obtain⟨⟨rfl,_⟩,_,rfl⟩:=d;refine⟨O,_,_,rfl,O,.inr ⟨b,0,rfl,λy E i=>?_⟩⟩;obtain⟨g,rfl⟩:=List.getElem?_eq_some_iff.1 i;obtain⟨z,p,B,q,f,_,e,_⟩:=a.at g;exact⟨_,f,_,_,rfl,cR.le (eV h b) e.1,cR.le (eV h b) e.2⟩
def u0 (l:List Int):Nat:=(l.map kJ).sum
def nO (s:dF):Nat:=u0 s.locals+u0 s.stack
def GO (s:dF):Nat:=if s.told=true then nO s else 100
def mu (A:List dF):Nat:=(A.map GO).sum
def nP (n:Nat) (k:Int) (A:List dF):Prop:=∀ s∈A,s.told=true->qW n k s
theorem GP:∀ {A:List dF} {i:Nat} (a:i < A.length) (s:dF),mu (A.set i s)+GO A[i]=mu A+GO s
 | [],i,a,s=>by simp at a
 | x::A,0,a,s=>by simp[mu];omega
 | x::A,i+1,a,s=>by
  have:=GP (A:=A) (i:=i) (by simpa using a) s;simp only[mu,List.set_cons_succ,List.map_cons,List.sum_cons,List.getElem_cons_succ]at this ⊢;omega
theorem qZ {n:Nat} {k:Int} {A:List dF} (b:nP n k A) (i:Nat) {s:dF} (c:s.told=true->qW n k s):nP n k (A.set i s):=λx d a=>by
 rcases List.mem_or_eq_of_mem_set d with h|rfl
 ·exact b x h a
 exact c a
theorem Jj {n:Nat} (a:n<=5) {t:Int} (h:0<=t/\t < 8+(n:Int)):kJ t<=10:=by
 unfold kJ;split
 ·omega
 split
 ·omega
 split
 ·omega
 split<;>omega
theorem ym {n:Nat} (a:n<=5):∀ {l:List Int},(∀ t∈l,0<=t/\t < 8+(n:Int))->u0 l<=l.length*10
 | [],_=>by simp[u0]
 | t::l,h=>by
  have d:=Jj a (h t Z);have b:=ym a (l:=l) (λx c=>h x (by simp[c]));simp only[u0,List.map_cons,List.sum_cons,List.length_cons]at b ⊢;omega
theorem GQ {n:Nat} (b:n<=5) {k:Int} (e:k<=3) {s:dF} (a:qW n k s):nO s < 100:=by
 have c:=ym b a.nK;have d:=ym b a.cA;have:=a.loc;have:=a.len;unfold nO;omega
theorem va {cs:List dH}:∀ {l r:List Int},l.length=r.length->(∀ i (d:i < l.length) (e:i < r.length),jo cs l[i] r[i])->u0 r<=u0 l/\(gq cs r l=false->u0 r < u0 l)
 | [],[],_,_=>by simp[u0,gq]
 | [],_::_,h,_=>by simp at h
 | _::_,[],h,_=>by simp at h
 | a::l,b::r,h,hm=>by
  have c:=hm 0 Z Z;simp only[List.getElem_cons_zero]at c;have j:=va (cs:=cs) (l:=l) (r:=r) (by simpa using h) (λi d e=>hm (i+1) (by simpa using d) (by simpa using e));simp only[u0,List.map_cons,List.sum_cons,gq]at j ⊢;refine⟨by have:=c.2.1;omega,λf=>?_⟩;cases g:gU cs b a with
  | false=>have:=c.2.2 g;omega
  | true=>rw[g,Bool.true_and]at f;have:=j.2 f;have:=c.2.1;omega
theorem Jk {cs:List dH} {a x:dF} {k:Int} (h:qW cs.length k a) (p:x.told=a.told/\x.locals.length=a.locals.length/\x.stack.length=a.stack.length/\(∀ i (b:i < a.locals.length) (o:i < x.locals.length),jo cs a.locals[i] x.locals[i])/\∀ i (b:i < a.stack.length) (o:i < x.stack.length),jo cs a.stack[i] x.stack[i]) :
  qW cs.length k x/\(yF cs x a=false->nO x < nO a):=by
 obtain⟨_,g,d,j,m⟩:=p;have q:=va g.symm j;have s:=va d.symm m;refine⟨⟨by rw[g];exact h.loc,λt f=>?_,λt f=>?_,by rw[d];exact h.len⟩,λc=>?_⟩
 ·obtain⟨i,e,rfl⟩:=List.mem_iff_getElem.1 f;exact(j i O e).1
 ·obtain⟨i,e,rfl⟩:=List.mem_iff_getElem.1 f;exact(m i O e).1
 unfold yF at c;rw[decide_eq_true d,Bool.true_and]at c;unfold nO;cases b:gq cs x.locals a.locals with
 | false=>have:=q.2 b;omega
 | true=>rw[b,Bool.true_and]at c;have:=s.2 c;omega
theorem vc (s:dF) (lp c:Option Addr) (d b:Nat) (h:Heap) (a:oN h s lp c d b) (e:s.locals.length<=1000000) (f:s.stack.length<=1000000) :
  bI prog 127 [.agg #[.bool s.told,.slice lp s.locals.length d,.slice c s.stack.length b]] h λv h'=>h.le h'/\vY h' v s :=
 bI.mono (sA s.told lp c d b s.locals s.stack h a.1 a.2 e f) λv h' j=>by
  obtain⟨m,g,o,i,p,q,rfl,st⟩:=j;exact⟨st.le,m,g,o,i,rfl,(eC st.o1 O (pQ a.1)).2,(eC st.o2 O (pQ a.2)).2⟩
theorem vY.of {h:Heap} {d e:Option Addr} {a b:Nat} {s:dF} (c:oN h s d e a b):jJ h [.bool s.told,.slice d s.locals.length a,.slice e s.stack.length b] s:=⟨_,_,rfl,c.1,c.2⟩
theorem B8 (us:List Value) (u:aS) (k:Int) (h0 h:Heap) (b c:Nat) (A:List dF) (e:Int) (s:dF) (lp N:Option Addr) (P M:Nat) (hu:cZ h0 us u) (ok:cn u.aq) (hk:k<=3) (a:fY h0 h b c A) (L:nP u.aq.length k A) (vX:0<=e/\e < A.length) (UL:A.length<=1000) (B:qW u.aq.length k s) (m:s.told=true) (hI:oN (bh h b) s lp N P M) :
  bI prog 190 [.agg ⟨us⟩,.slice (some ⟨b,0,none⟩) A.length c,.int .i64 e,.agg #[.bool s.told,.slice lp s.locals.length P,.slice N s.stack.length M]] h
   λv h'=>(bh h b).le (bh h' b)/\∃ o f,v=.bool o/\fY h0 h' b c f/\nP u.aq.length k f/\f.length=A.length/\mu f<=mu A/\(o=true->mu f < mu A):=by
 obtain⟨Q,I,ad,aa,rfl,hcs,kS,ko,hl2⟩:=hu.form;have UN:eD (bh h b) (.slice Q u.aq.length I) u.aq:=hcs.le a.hle (λ_ _ t=>t.le a.hle);have vL:=ok.2.1;obtain⟨ab,zl⟩:=a.in;have F:e.toNat < A.length:=by omega
 have KI:=B.loc;have aak:=B.len;have nL:=vc s lp N P M (bh h b) hI O O;obtain⟨Y,S,p2,T,J,V,e3,put⟩:=a.at F;have II:=List.getElem_mem F;have qC:=λx=>GP F x;have QV:=L _ II;have same:∀ h',h.le h'->(bh h b).le (bh h' b)/\∃ o f,Value.bool false=.bool o/\fY h0 h' b c f/\nP u.aq.length k f/\f.length=A.length/\mu f<=mu A/\(o=true->mu f < mu A):=λh' hl=>⟨bV b hl,false,A,rfl,a.aJ hl,L,rfl,Nat.le_refl _,λt=>by cases t⟩
 refine bT aB func190 SP U rfl ?_;conv=>whnf
 refine ay ?_;conv=>whnf
 refine ptr ?_;conv=>whnf
 refine ld V ?_;conv=>whnf
 apply cq<;>intro K;all_goals conv=>whnf
 ·refine jf zl nL (λv j i d=>?_);refine d.elim λw d=>d.elim λd1 d=>d.elim λy d=>d.elim λd2 d=>?_;have X:=d.1;subst X;have H:=d.2;have R:=a.aJ i;refine(R.at F).elim λ_ g=>g.elim λ_ g=>g.elim λ_ g=>g.elim λ_ g=>?_;have zY:=g.2.2.2;conv=>whnf
  repeat' ((first|refine ay ?_|refine av ?_|refine ptr ?_)<;>conv=>whnf)
  refine zY _ s _ (vY.of H) (λp E C=>?_);conv=>whnf
  have hm:=qC s;have W:=GQ vL hk B;have J:GO s=nO s:=by unfold GO;rw[if_pos m]
  have V:GO A[e.toNat]=100:=by unfold GO;rw[if_neg (by rw[K];simp)]
  refine⟨by rw[E];exact bV b i,true,A.set e.toNat s,rfl,C,qZ L _ (λ_=>B),Z,O,λ_=>O⟩
 have q:=QV K;have PE:=Eb Q u.aq.length I u.aq A[e.toNat] s Y p2 lp N S T P M (bh h b) UN ok e3 hI (by have:=q.loc;omega) (by have:=q.loc;omega) (by have:=q.len;omega) q.nK q.cA B.nK B.cA;have rest:∀(j:Heap) (x:dF) (w y:Option Addr) (d1 d2:Nat),h.le j->oN (bh j b) x w y d1 d2->KM u.aq A[e.toNat] x->x.told=true->qW u.aq.length k x/\Pure prog 126 [.slice Q u.aq.length I,.agg #[.bool x.told,.slice w x.locals.length d1,.slice y x.stack.length d2],.agg #[.bool A[e.toNat].told,.slice Y A[e.toNat].locals.length S,.slice p2 A[e.toNat].stack.length T]] j (.bool (yF u.aq x A[e.toNat]))/\(yF u.aq x A[e.toNat]=false->nO x < nO A[e.toNat]):=λj x w y d1 d2 i t G htx=>by
  rcases G with rfl|G
  ·cases htx
  have jm:=Jk q G;have D:=jm.1;exact⟨D,yj Q u.aq.length I u.aq x A[e.toNat] w y Y p2 d1 d2 S T j (hcs.le (Heap.le_trans a.le i) (λ_ _ t=>t.le (Heap.le_trans a.le i))) ok (t.le (eV j b)) (e3.le (Heap.le_trans (eV h b) i)) O (λz m=>(D.nK z m).2) (λz m=>(D.cA z m).2) (λz m=>(q.nK z m).2) (λz m=>(q.cA z m).2),jm.2⟩
 repeat' ((first|exact trivial|apply And.intro|refine ay ?_|refine ptr ?_|refine dh J ?_|refine Da zl PE (λv j i d=>?_))<;>conv=>whnf)
 all_goals
  refine d.elim λx d=>?_;have G:=d.2;refine d.1.elim λw d=>d.elim λd1 d=>d.elim λy d=>d.elim λd2 d=>?_;have X:=d.1;subst X;have H:=d.2;have R:=a.aJ i;have Xr:=rest j x w y d1 d2 i H G;have hsx:=qC x;refine(R.at F).elim λ_ g=>g.elim λ_ g=>g.elim λ_ g=>g.elim λ_ g=>?_;have zY:=g.2.2.2;have e4:dQ j b (0+e.toNat*3) 3=_:=gv i _ _ _ J;conv=>whnf
  generalize QJ:x.told=xt at Xr H ⊢;cases xt
  ·conv=>whnf
   repeat' ((first|exact trivial|exact same _ i|apply And.intro)<;>conv=>whnf)
  have rs:=Xr rfl;have D:=rs.1;have mW:=rs.2.1;have W:=rs.2.2;generalize hvb:yF u.aq x A[e.toNat]=vb at mW W;have fin:∀ p,bh p b=bh j b->fY h0 p b c (A.set e.toNat x)->vb=false->(bh h b).le (bh p b)/\∃ o f,Value.bool true=.bool o/\fY h0 p b c f/\nP u.aq.length k f/\f.length=A.length/\mu f<=mu A/\(o=true->mu f < mu A):=λp E C hf=>by
   have J:GO x=nO x:=by unfold GO;rw[if_pos QJ]
   have V:GO A[e.toNat]=nO A[e.toNat]:=by unfold GO;rw[if_pos K]
   have:=W hf;exact⟨by rw[E];exact bV b i,true,A.set e.toNat x,rfl,C,qZ L _ (λ_=>D),Z,O,λ_=>O⟩
  conv=>whnf
  repeat' ((first|exact trivial|apply And.intro|refine ay ?_|refine ptr ?_|refine dh e4 ?_|refine aO mW ?_)<;>conv=>whnf)
  all_goals
   cases vb
   ·conv=>whnf
    refine ay ?_;conv=>whnf
    refine ptr ?_;conv=>whnf
    refine zY _ x _ (QJ ▸ vY.of H) (λp E C=>?_);conv=>whnf
    exact fin p E C rfl
   conv=>whnf
   exact same _ i
def dW (n:Nat) (k:Int) (s:dF) (r:Option dF):Prop:=∀ x,r=some x->qW n k x/\x.told=s.told
theorem dW.none {n:Nat} {k:Int} {s:dF}:dW n k s none:=λ_ h=>by cases h
theorem dW.self {n:Nat} {k:Int} {s:dF} (a:qW n k s):dW n k s (some s):=λx h=>by cases h;exact⟨a,rfl⟩
theorem dW.pop {n:Nat} {k:Int} {s:dF} (a:qW n k s) (cs:List dH) (l:List Int):dW n k s (fC cs s l):=λx h=>by
 unfold fC at h;split at h
 ·cases h
  exact⟨⟨a.loc,a.nK,λt b=>a.cA t (List.mem_of_mem_take b),by have:=a.len;simp;omega⟩,rfl⟩
 cases h
theorem dW.push {n:Nat} {k:Int} {s:dF} {r:Option dF} (c:dW n k s r) {t:Int} (d:0<=t/\t < 8+(n:Int)):dW n k s (gr r t):=λx h=>by
 unfold gr at h;cases r with
 | none=>cases h
 | some y =>
  have:=c y rfl;simp only at h;split at h
  ·cases h
  rename_i e;cases h
  have b:=this.1;refine⟨⟨b.loc,b.nK,λz a=>?_,by simp;omega⟩,this.2⟩;rcases List.mem_append.1 a with a|a
  ·exact b.cA z a
  rw[List.mem_singleton.1 a];exact d
theorem ve {n:Nat} {l:List Int} (a:∀ t∈l,0<=t/\t < 8+(n:Int)) (i:Nat):0<=l.getD i 0/\l.getD i 0 < 8+(n:Int):=by
 by_cases h:i < l.length
 ·have e:l.getD i 0=l[i]:=by simp[h]
  rw[e];exact a _ (List.getElem_mem h)
 have e:l.getD i 0=0:=by rw[List.getD_eq_getElem?_getD,List.getElem?_eq_none O];rfl
 rw[e];omega
theorem GR {n:Nat} {k:Int} {s:dF} (a:qW n k s) (cs:List dH) (i:dc):dW n k s (mH cs i s):=by
 unfold mH;repeat' split
 all_goals first
  | exact dW.none
  | exact dW.self a
  | exact dW.pop a _ _
  | exact(dW.self a).push O
  | exact(dW.pop a _ _).push O
  | exact(dW.self a).push (ve a.nK _)
  | exact(dW.self a).push (a.cA _ (List.mem_of_getLast? (by assumption)))
  | skip
 intro x d;cases d
 rename_i t c;refine⟨⟨by simpa using a.loc,λz b=>?_,λz b=>a.cA z ((List.dropLast_sublist _).mem b),by have:=a.len;simp;omega⟩,rfl⟩;rcases List.mem_or_eq_of_mem_set b with b|rfl
 ·exact a.nK z b
 exact a.cA _ (List.mem_of_getLast? c)
theorem GS {k:Int} {s:dF} {cs:List dH} (ok:cn cs) (a:qW cs.length k s) (i:dc) (j:12<=i.kind/\i.kind<=19) (b:i.kind=12\/i.kind=17\/i.kind=18\/i.kind=19->0<=i.a/\i.a < cs.length):dW cs.length k s (sB cs i s):=by
 have h:=ok.1;have c:0<=uW i.a/\uW i.a < 8+(cs.length:Int):=by unfold uW;split<;>omega
 have d:0<=kI i.a/\kI i.a < 8+(cs.length:Int):=by unfold kI;split<;>omega
 unfold sB;split
 ·exact(dW.self a).push (by have:=b (.inl (by assumption));omega)
 split
 ·exact(dW.pop a _ _).push c
 split
 ·refine dW.push ?_ O;split
  ·rename_i r e;rw[<-e];exact dW.pop a _ _
  exact dW.pop a _ _
 split
 ·exact(dW.pop a _ _).push d
 split
 ·exact dW.pop a _ _
 split
 ·have g:=b (.inr (.inl (by assumption)));refine(dW.pop a _ _).push (ve (λt f=>?_) _);have:=fh (oG ok (i.a.toNat+1) O g.2 t f);omega
 split
 ·exact dW.pop a _ _
 exact(dW.pop a _ _).push (by have:=b (.inr (.inr (.inr O)));omega)
theorem q7 {u:aS} {m:cu} {k:Int} {s:dF} {i:dc} (c:D8 u) (a:qW u.aq.length k s) (d:ej u m i):dW u.aq.length k s (stepT u m i s):=by
 have ok:=c.1;have x:=ok.1;have t:(i.kind=12\/i.kind=17\/i.kind=18\/i.kind=19->0<=i.a/\i.a < u.aq.length)/\(i.kind=17\/i.kind=18->0<=i.b/\i.b < (cP u.aq i.a).length):=d.sn;unfold stepT;split
 ·exact dW.pop a _ _
 split
 ·rename_i h;have e:¬(if i.kind=21 then find u i.a i.b else i.a) < 0->0<=(if i.kind=21 then find u i.a i.b else i.a)/\(if i.kind=21 then find u i.a i.b else i.a) < u.methods.length:=by
   obtain⟨v,f,g⟩:=i;simp only at h ⊢;split
   ·have:=gK u f g;omega
   have j:v=20:=by omega
   subst j;have:=(aL (p:=7) (q:=0) rfl).1 d;simp[br]at this;omega
  unfold uX;generalize (if i.kind=21 then find u i.a i.b else i.a)=w at e;generalize (if i.kind=21 then [8+i.a]else [])=y;simp only;by_cases b:w < 0
  ·rw[if_pos b];exact dW.none
  rw[if_neg b];have o:=c.aY (e b);have:=fh o.2.2;exact(dW.pop a _ _).push O
 split
 ·exact GS ok a i (by assumption) t.1
 exact GR a _ _
theorem ej.jump {u:aS} {m:cu} {i:dc} (b:ej u m i) (a:dG i=true):0<=i.a/\i.a < m.code.length:=by
 obtain⟨k,d,e⟩:=i;unfold dG at a;have f:8<=k/\k<=11:=by simpa using a
 have c:k=8\/k=9\/k=10\/k=11:=by omega
 rcases c with rfl|rfl|rfl|rfl;all_goals
  have:=(aL (p:=4) (q:=0) rfl).1 b;simp[br]at this;exact this.1
theorem sD {n:Nat} {k c:Int} {s:dF} (a:qW n k s) (d:0<=c/\c < n):qW n k (eo c s) :=
 ⟨a.loc,a.nK,λt b=>by rw[List.mem_singleton.1 b];omega,by simp[eo]⟩
def Tryz.G4:Fs:={L:=[2,3,5],LL:=[17,18],trees:=[(5,(.one 2 (.one 0 (.alt 1 (.one 3 (.one 4 (.one 5 (.one 6 .nil)))) (.alt 3 (.one 1 (.one 4 (.one 5 (.one 6 .nil)))) .eJ)))))],M:=[16]}
def Tryz.G13:Fs:={L:=[2,3,4,5,47,92,100,105,126],LL:=[9,22,23,36,38,69,79,82,89,99,104,115,117,123,146,152,157,158],bX:=[(2,[1,4,0,2,3,5]),(16,[0,2,3,1,4,5,6,7,8]),(20,[0,2,3,1,4,5,6,7,8,9,10]),(8,[0,2,1,3,4,5,6,7,8,9,10])],trees:=[(4,(.one 0 (.alt 1 (.one 2 (.one 3 .nil)) (.alt 2 (.one 1 (.one 3 .nil)) .eJ)))),(18,(.one 0 (.one 2 (.one 3 (.one 5 (.one 9 (.one 10 (.one 1 (.one 4 (.one 6 (.one 7 (.one 11 (.one 12 (.alt 8 (.one 13 (.one 14 (.one 15 (.one 16 (.one 17 (.one 18 .nil)))))) (.alt 13 (.one 14 (.one 8 (.one 15 (.one 16 (.one 17 (.one 18 .nil)))))) .eJ))))))))))))))),(23,(.one 0 (.one 2 (.one 7 (.one 8 (.one 1 (.one 3 (.one 4 (.one 5 (.one 9 (.one 10 (.alt 6 (.one 11 (.one 12 (.one 13 (.one 14 (.one 15 (.one 16 .nil)))))) (.alt 11 (.one 12 (.one 6 (.one 13 (.one 14 (.one 15 (.one 16 .nil)))))) .eJ))))))))))))),(26,(.one 0 (.one 5 (.one 6 (.one 1 (.one 2 (.one 3 (.one 7 (.one 8 (.one 9 (.alt 4 (.one 10 (.one 11 (.one 12 .nil))) (.alt 10 (.one 4 (.one 11 (.one 12 .nil))) .eJ)))))))))))),(27,(.one 0 (.alt 1 (.one 2 (.one 3 .nil)) (.alt 2 (.one 1 (.one 3 .nil)) .eJ))))],M:=[12,16,32]}
def Tryz.G14:Fs:={L:=[2,3,6],LL:=[33,44,52,55,84,95,103,110,112,117,119,123,126,132],bX:=[(8,[0,2,6,1,3,4,5,7,8,9]),(15,[0,2,4,8,1,3,5,6,7,9]),(16,[1,3,0,2,4,6,5,7]),(17,[0,2,6,1,3,4,7,5,8,9])],trees:=[(10,(.one 0 (.one 2 (.one 6 (.one 7 (.one 8 (.one 11 (.one 13 (.one 1 (.one 3 (.one 4 (.one 9 (.one 10 (.one 12 (.one 14 (.one 15 (.one 16 (.alt 5 (.one 17 (.one 18 (.one 19 .nil))) (.alt 17 (.one 5 (.one 18 (.one 19 .nil))) .eJ))))))))))))))))))),(13,(.one 0 (.one 2 (.one 6 (.one 10 (.one 11 (.one 13 (.one 18 (.one 19 (.one 1 (.one 3 (.one 4 (.one 12 (.one 14 (.one 15 (.one 20 (.one 21 (.alt 5 (.one 7 (.one 8 (.alt 9 (.one 16 (.one 17 (.one 22 (.one 23 (.one 24 .nil))))) (.alt 16 (.alt 9 (.one 17 (.one 22 (.one 23 (.one 24 .nil)))) (.alt 17 (.alt 9 (.one 22 (.one 23 (.one 24 .nil))) (.alt 22 (.one 9 (.one 23 (.one 24 .nil))) .eJ)) .eJ)) .eJ)))) (.alt 16 (.alt 5 (.one 7 (.one 8 (.alt 9 (.one 17 (.one 22 (.one 23 (.one 24 .nil)))) (.alt 17 (.alt 9 (.one 22 (.one 23 (.one 24 .nil))) (.alt 22 (.one 9 (.one 23 (.one 24 .nil))) .eJ)) .eJ)))) (.alt 17 (.alt 5 (.one 7 (.one 8 (.alt 9 (.one 22 (.one 23 (.one 24 .nil))) (.alt 22 (.one 9 (.one 23 (.one 24 .nil))) .eJ)))) (.alt 22 (.one 5 (.one 7 (.one 8 (.one 9 (.one 23 (.one 24 .nil)))))) .eJ)) .eJ)) .eJ)))))))))))))))))))],M:=[12,36,37,38]}
def Tryz.G33:Fs:={L:=[2,3,5],LL:=[24,26],bX:=[(6,[0,2,4,8,1,3,5,6,7,9])],M:=[83]}
def Tryz.G34:Fs:={L:=[3,4,6,109,132],LL:=[31,34,48,58,67,71,74,99,126,129],bX:=[(9,[0,2,3,1,4,5,6,7,8]),(11,[0,2,3,1,4,5,6,7]),(13,[0,2,3,4,7,1,5,6,8,9,10,11]),(21,[0,2,4,6,8,1,3,5,7,9,10,11,12,13,14]),(27,[0,2,3,1,4,5,6,7,8,9,10])],trees:=[(7,(.one 0 (.one 2 (.one 3 (.one 5 (.one 9 (.one 1 (.one 4 (.one 6 (.one 7 (.alt 8 (.one 10 (.one 11 (.one 12 (.one 13 (.one 14 (.one 15 .nil)))))) (.alt 10 (.one 8 (.one 11 (.one 12 (.one 13 (.one 14 (.one 15 .nil)))))) .eJ))))))))))))],M:=[12,36,37]}
def Tryz.G36:Fs:={L:=[6,7,22,44,59,66],LL:=[18],bX:=[(5,[0,2,3,1,4,5,6,7,8])],M:=[37]}
def Tryz.G81:Fs:={L:=[6,35,40],LL:=[31],bX:=[(10,[0,2,3,1,4,5,6,7,8])],M:=[88]}
def Tryz.G82:Fs:={L:=[9,25,107],LL:=[63,80,89,99],bX:=[(17,[0,1,5,2,3,4,6,7,8,9,10]),(22,[0,1,2,3,4,5,6,7,8,9,11,12,10,13,14,15,16,17,18,19,21,22,20,23,24,25,26])],M:=[12]}
def Tryz.G87:Fs:={L:=[39,44,67],LL:=[43],trees:=[(10,(.one 0 (.one 1 (.one 2 (.one 3 (.one 4 (.one 5 (.one 7 (.one 8 (.alt 6 (.one 9 (.one 10 (.one 11 (.one 12 (.one 13 (.one 14 (.one 15 (.one 16 .nil)))))))) (.alt 9 (.one 10 (.one 11 (.one 12 (.one 6 (.one 13 (.one 14 (.one 15 (.one 16 .nil)))))))) .eJ))))))))))),(14,(.one 0 (.one 1 (.one 2 (.one 4 (.one 5 (.one 7 (.one 8 (.one 10 (.one 11 (.alt 3 (.alt 6 (.alt 9 (.one 12 (.one 13 (.one 14 (.one 15 .nil)))) (.alt 12 (.one 9 (.one 13 (.one 14 (.one 15 .nil)))) .eJ)) (.alt 9 (.alt 6 (.one 12 (.one 13 (.one 14 (.one 15 .nil)))) (.alt 12 (.one 6 (.one 13 (.one 14 (.one 15 .nil)))) .eJ)) (.alt 12 (.alt 6 (.one 9 (.one 13 (.one 14 (.one 15 .nil)))) (.alt 9 (.one 6 (.one 13 (.one 14 (.one 15 .nil)))) .eJ)) .eJ))) (.alt 6 (.alt 3 (.alt 9 (.one 12 (.one 13 (.one 14 (.one 15 .nil)))) (.alt 12 (.one 9 (.one 13 (.one 14 (.one 15 .nil)))) .eJ)) (.alt 9 (.alt 3 (.one 12 (.one 13 (.one 14 (.one 15 .nil)))) (.alt 12 (.one 3 (.one 13 (.one 14 (.one 15 .nil)))) .eJ)) (.alt 12 (.alt 3 (.one 9 (.one 13 (.one 14 (.one 15 .nil)))) (.alt 9 (.one 3 (.one 13 (.one 14 (.one 15 .nil)))) .eJ)) .eJ))) (.alt 9 (.alt 3 (.alt 6 (.one 12 (.one 13 (.one 14 (.one 15 .nil)))) (.alt 12 (.one 6 (.one 13 (.one 14 (.one 15 .nil)))) .eJ)) (.alt 6 (.alt 3 (.one 12 (.one 13 (.one 14 (.one 15 .nil)))) (.alt 12 (.one 3 (.one 13 (.one 14 (.one 15 .nil)))) .eJ)) (.alt 12 (.alt 3 (.one 6 (.one 13 (.one 14 (.one 15 .nil)))) (.alt 6 (.one 3 (.one 13 (.one 14 (.one 15 .nil)))) .eJ)) .eJ))) (.alt 12 (.alt 3 (.alt 6 (.one 9 (.one 13 (.one 14 (.one 15 .nil)))) (.alt 9 (.one 6 (.one 13 (.one 14 (.one 15 .nil)))) .eJ)) (.alt 6 (.alt 3 (.one 9 (.one 13 (.one 14 (.one 15 .nil)))) (.alt 9 (.one 3 (.one 13 (.one 14 (.one 15 .nil)))) .eJ)) (.alt 9 (.alt 3 (.one 6 (.one 13 (.one 14 (.one 15 .nil)))) (.alt 6 (.one 3 (.one 13 (.one 14 (.one 15 .nil)))) .eJ)) .eJ))) .eJ))))))))))))))],M:=[12]}
def Tryz.UO:Fs:={L:=[4,5,22],LL:=[18],bX:=[(5,[0,2,3,1,4,5,6,7,8])],M:=[88]}
def Tryz.UP:Fs:={L:=[4,5,10,12,13],LL:=[39,41,45,48,49,50,66,72,75,80],bX:=[(9,[0,1,3,2,4,5,6,7,9,10,8,11,12,13,14,15,16]),(14,[0,2,1,3,4,5,6,8,9,11,7,10,12,13,15,14,16,17])],M:=[190]}
structure Grown (h0 h:Heap) (b c n:Nat) (k:Int) (A:List dF) (h':Heap) (A':List dF) (ch:Bool):Prop where
 hle:(bh h b).le (bh h' b)
 all:fY h0 h' b c A'
 val:nP n k A'
 len:A'.length=A.length
 mu:mu A'<=mu A
 less:ch=true->Go.Proofs.mu A' < Go.Proofs.mu A
theorem Grown.start {h0 h:Heap} {b c n:Nat} {k:Int} {A:List dF} (a:fY h0 h b c A) (d:nP n k A):Grown h0 h b c n k A h A false:=⟨Heap.le_refl _,a,d,rfl,Nat.le_refl _,λe=>by cases e⟩
theorem Grown.trans {h0 h h' i:Heap} {b c n:Nat} {k:Int} {A e f:List dF} {x y:Bool} (g:Grown h0 h b c n k A h' e x) (a:Grown h0 h' b c n k e i f y):Grown h0 h b c n k A i f (x||y) :=
 ⟨Heap.le_trans g.hle a.hle,a.all,a.val,by rw[a.len,g.len],Nat.le_trans a.mu g.mu,λd=>by
  have j:=g.mu;have m:=a.mu;rcases(by simpa using d:x=true\/y=true)with d|d
  ·have:=g.less d;omega
  have:=a.less d;omega⟩
theorem Grown.more {h0 h h' d:Heap} {b c n:Nat} {k:Int} {A a:List dF} {x:Bool} (g:Grown h0 h b c n k A h' a x) (e:h'.le d):Grown h0 h b c n k A d a x :=
 ⟨Heap.le_trans g.hle (bV b e),g.all.aJ e,g.val,g.len,g.mu,g.less⟩
theorem nQ (f:List Value) (u:aS) (k:Int) (h0 j h:Heap) (b c:Nat) (i A:List dF) (x:Bool) (a:Int) (s:dF) (v:Value) (n:Nat) (F:A.length=n) (J:cZ h0 f u) (ok:cn u.aq) (D:k<=3) (g:Grown h0 j b c u.aq.length k i h A x) (B:0<=a/\a < A.length) (E:A.length<=1000) (H:qW u.aq.length k s) (I:s.told=true) (G:vY (bh h b) v s) :
  bI prog 190 [.agg ⟨f⟩,.slice (some ⟨b,0,none⟩) n c,.int .i64 a,v] h
   λv h'=>∃ d e,v=.bool d/\Grown h0 j b c u.aq.length k i h' e (x||d)/\(bh h b).le (bh h' b):=by
 subst F;obtain⟨L,p,M,q,rfl,z⟩:=G;refine bI.mono (B8 f u k h0 h b c A a s L M p q J ok D g.all g.val B E H I z) λv h' C=>?_;obtain⟨m,d,e,rfl,o,K,t,w,y⟩:=C;exact⟨d,e,rfl,g.trans ⟨m,o,K,t,w,y⟩,m⟩
theorem vY.le {h h':Heap} (d:h.le h') {v:Value} {s:dF} (f:vY h v s):vY h' v s:=by
 obtain⟨g,a,i,b,e,c⟩:=f;exact⟨g,a,i,b,e,c.le d⟩
theorem zZ (us ms:List Value) (u:aS) (m:cu) (h0 h:Heap) (b c:Nat) (A:List dF) (f:Int) (hu:cZ h0 us u) (hm:dO h0 ms m) (hV:D8 u) (T:MJ u m) (a:fY h0 h b c A) (hA:nP u.aq.length m.locals A) (UL:A.length=m.code.length) (vX:0<=f/\f < A.length) :
  bI prog 164 [.agg ⟨us⟩,.agg ⟨ms⟩,.slice (some ⟨b,0,none⟩) A.length c,.int .i64 f] h
   λv h'=>∃ B A',v=.bool B/\Grown h0 h b c u.aq.length m.locals A h' A' B:=by
 have oT:=hu;have PF:=hm;have ok:=hV.1;have vL:=ok.2.1;have Y:=T.head.2.2.2.2.1;have rG:=T.len.2;obtain⟨ad,cc,ae,ab,rfl,hcs,kS,ko,hl2⟩:=hu.form;obtain⟨p1,c1,p2,c2,p3,c3,p4,c4,rfl,k1,k2,k3,k4,k5,k6,k7,k8,d1,d2,d3,d4⟩:=hm.form;have hi:f.toNat < A.length:=by omega
 have II:=List.getElem_mem hi;obtain⟨lp,lc,kp,kc,M,N,V,_⟩:=a.at hi;have QV:=hA _ II;generalize q:A[f.toNat]=x at M N V QV;clear q;have g0:=Grown.start a hA;have MK:f.toNat < m.code.length:=by omega
 obtain⟨bi,oi,vi,H,f1,f2,f3⟩:=k6.get MK;have xG:m.code.getD f.toNat dj=m.code[f.toNat]:=by simp[MK]
 have xV:=T.code _ (List.getElem_mem MK);have yo:∀ d:Heap,h0.le d->(q:qW u.aq.length m.locals x)->oN d x lp kp lc kc->_:=λd hl q hI=>sC _ _ u m f x lp kp lc kc d (oT.le hl) (PF.le hl) hV hI q Y O (by rw[xG];exact xV) T.head.2.2.1;rw[xG]at yo;have X:=λhj=>xV.jump hj;have PG:=λq:qW u.aq.length m.locals x=>q7 (m:=m) hV q xV;subst f2;generalize m.code[f.toNat]=ah at f1 xV yo X PG;obtain⟨Q,L,P⟩:=ah;simp only at f1 X;refine bT aB func164 UP U rfl ?_;conv=>whnf
 repeat' ((first|refine ld N ?_|refine ay ?_|refine av ?_|refine ptr ?_)<;>conv=>whnf)
 apply cq<;>intro aa;all_goals conv=>whnf
 ·exact⟨false,A,rfl,g0⟩
 have q:=QV aa;have aal:=yo (bh h b) a.hle q V;repeat' ((first|refine dh M ?_|refine ay ?_|refine av ?_|refine ptr ?_)<;>conv=>whnf)
 refine eu [2,3,4,5,9,10,11] [4,5,10] (λz:Nat × Heap × List dF × Bool=>z.1<=m.catches.length/\Grown h0 h b c u.aq.length m.locals A z.2.1 z.2.2.1 z.2.2.2) (λz=>m.catches.length-z.1)
  (λz=>([.v (.slice (some ⟨b,0,none⟩) A.length c),.v (.int .i64 f),.l 4 0,.l 5 0,.v (.bool z.2.2.2),.l 10 0,.v (.int .i64 z.1)],
   [some [.slice ad u.aq.length cc,.slice ae u.methods.length ab],some [.int .i64 m.cls,.int .i64 m.er,.slice p1 m.args.length c1,.int .i64 m.out,.int .i64 m.locals,.slice p2 m.code.length c2,.slice p3 m.aT.length c3,.slice p4 m.catches.length c4],some [.bool x.told,.slice lp x.locals.length lc,.slice kp x.stack.length kc]],z.2.1))
  (0,h,A,false) ⟨O,g0⟩ rfl ?_
 rintro⟨i,W,I,j⟩ ⟨PI,s⟩;simp only at PI s ⊢;have Qz:=s.len;conv=>whnf
 apply aD<;>intro g2;all_goals conv=>whnf
 ·have lu:i < m.catches.length:=by omega
  obtain⟨bb,off,vs,GU,w1,w2,w3⟩:=k8.get lu;subst w2;have I1:=T.cat.2 _ (List.getElem_mem lu);generalize m.catches[i]=ct at w1 w3 I1;obtain⟨lo,NX,to,cls⟩:=ct;obtain⟨⟨PJ,PK,ct3,ct4⟩,⟨PL,PM⟩,⟨Xs,Xt⟩,_⟩:=I1;simp only at w1 PJ PK ct3 ct4 PL PM Xs Xt;have UQ:h0.le W:=s.all.le;have GV:=gv UQ _ _ _ w1;repeat' ((first|refine aP GU ?_|refine dh GV ?_|refine ay ?_|refine av ?_|refine ptr ?_)<;>conv=>whnf)
  have G:=λd=>de f lo (NX-1) d;have Km:=sD q ⟨Xs,Xt⟩;obtain⟨ag,zl⟩:=s.all.in;have UR:=nM lo NX to cls x lp kp lc kc (bh W b) (V.le s.hle) (by have:=q.loc;omega) O;generalize decide (lo<=f/\f<=NX-1)=PN at G;cases PN
  ·repeat' ((first|exact trivial|apply And.intro|refine av ?_|refine aO (G _) ?_)<;>conv=>whnf)
   all_goals exact cT (i+1,W,I,j) ⟨by simp only;omega,s⟩ (by simp only;omega) rfl
  repeat' ((first|exact trivial|apply And.intro|refine av ?_|refine aO (G _) ?_|refine Da zl UR (λv g R e=>?_))<;>conv=>whnf)
  all_goals
   have E:=s.more R;refine aG (nQ _ u m.locals h0 h g b c A I j to (eo cls x) _ _ Qz oT ok Y E O O Km rfl e) (λv h8 d=>?_);refine d.elim λB d=>d.elim λA8 d=>?_;have o:=d.1;subst o;have w:=d.2.1;cases B
   ·conv=>whnf
    refine av ?_;conv=>whnf
    exact cT (i+1,h8,A8,j) ⟨by simp only;omega,by simpa using w⟩ (by simp only;omega) rfl
   conv=>whnf
   refine av ?_;conv=>whnf
   exact cT (i+1,h8,A8,true) ⟨by simp only;omega,by simpa using w⟩ (by simp only;omega) rfl
 obtain⟨ag,zl⟩:=s.all.in;have nu:=yo (bh W b) s.all.hle q (V.le s.hle);have Xu:=PG q;generalize stepT u m ⟨Q,L,P⟩ x=res at nu Xu;refine jf zl nu (λv G l6 e=>?_);have J:=s.more l6;have Jl:=gv J.all.le _ _ _ f1;have US:=λd=>iC Q L P d;have K:=λd=>lF Q L P d;cases res with
 | none =>
  refine e.elim λa1 e=>e.elim λq1 e=>e.elim λn1 e=>e.elim λM e=>e.elim λq2 e=>e.elim λn2 e=>e.elim λN o=>?_;subst o;conv=>whnf
  exact⟨j,I,rfl,J⟩
 | some y =>
  have UT:=Xu y rfl;have Xv:=UT.2.trans aa;have hl6:=J.len;refine e.elim λq1 e=>e.elim λM e=>e.elim λq2 e=>e.elim λN e=>?_;have o:=e.1;subst o;have hI6:=e.2;have QW:vY (bh G b) (.agg #[.bool y.told,.slice q1 y.locals.length M,.slice q2 y.stack.length N]) y:=⟨_,_,_,_,rfl,hI6⟩
  generalize dG ⟨Q,L,P⟩=af at US X;generalize jq ⟨Q,L,P⟩=en at K;have last:∀(g:Heap) (p:List dF) (x7:Bool),Grown h0 h b c u.aq.length m.locals A g p x7->(bh G b).le (bh g b)->(f+1 < m.code.length->bI prog 190 [.agg ⟨[.slice ad u.aq.length cc,.slice ae u.methods.length ab]⟩,.slice (some ⟨b,0,none⟩) A.length c,.int .i64 (f+1),.agg #[.bool y.told,.slice q1 y.locals.length M,.slice q2 y.stack.length N]] g λv h'=>∃ B A',v=.bool B/\Grown h0 h b c u.aq.length m.locals A h' A' (x7||B)/\(bh g b).le (bh h' b))/\dQ g bi (oi+f.toNat*3) 3=some [.int .i64 Q,.int .i64 L,.int .i64 P]:=λg p x7 E R=>⟨λLN=>by
   have hl7:=E.len;exact nQ _ u m.locals h0 h g b c A p x7 (f+1) y _ _ hl7 oT ok Y E O O UT.1 Xv (QW.le R),gv E.all.le _ _ _ f1⟩
  have r1:=aM Jl (i:=1) rfl;conv=>whnf
  cases af
  ·repeat' ((first|exact trivial|apply And.intro|refine ay ?_|refine aP H ?_|refine dh Jl ?_|refine aO (US _) ?_)<;>conv=>whnf)
   all_goals
    have t:=last G I j J (Heap.le_refl _);cases en
    ·conv=>whnf
     repeat' ((first|refine aP H ?_|refine dh t.2 ?_|refine ax (K _) ?_|refine ay ?_|refine av ?_|refine ptr ?_)<;>conv=>whnf)
     apply aD<;>intro F;all_goals conv=>whnf
     ·repeat' ((first|refine ay ?_|refine av ?_|refine ptr ?_)<;>conv=>whnf)
      refine aG (t.1 F) (λv h9 d=>?_);refine d.elim λS d=>d.elim λC d=>?_;have o:=d.1;subst o;have D:=d.2.1;cases S
      ·conv=>whnf
       exact⟨j,C,rfl,by simpa using D⟩
      conv=>whnf
      exact⟨true,C,rfl,by simpa using D⟩
     exact⟨j,I,rfl,J⟩
    conv=>whnf
    repeat' ((first|refine aP H ?_|refine dh t.2 ?_|refine ax (K _) ?_|refine ay ?_|refine av ?_|refine ptr ?_)<;>conv=>whnf)
    exact⟨j,I,rfl,J⟩
  have hj:=X rfl;repeat' ((first|exact trivial|apply And.intro|refine ay ?_|refine aP H ?_|refine dh Jl ?_|refine ld r1 ?_|refine aO (US _) ?_)<;>conv=>whnf)
  all_goals
   refine aG (nQ _ u m.locals h0 h G b c A I j L y _ _ hl6 oT ok Y J O O UT.1 Xv QW) (λv g d=>?_);refine d.elim λB d=>d.elim λp d=>?_;have o:=d.1;subst o;have E:=d.2.1;have R:=d.2.2;cases B
   ·have w:Grown h0 h b c u.aq.length m.locals A g p j:=by simpa using E
    conv=>whnf
    have t:=last g p j w R;cases en
    ·conv=>whnf
     repeat' ((first|refine aP H ?_|refine dh t.2 ?_|refine ax (K _) ?_|refine ay ?_|refine av ?_|refine ptr ?_)<;>conv=>whnf)
     apply aD<;>intro F;all_goals conv=>whnf
     ·repeat' ((first|refine ay ?_|refine av ?_|refine ptr ?_)<;>conv=>whnf)
      refine aG (t.1 F) (λv h9 d=>?_);refine d.elim λS d=>d.elim λC d=>?_;have o:=d.1;subst o;have D:=d.2.1;cases S
      ·conv=>whnf
       exact⟨j,C,rfl,by simpa using D⟩
      conv=>whnf
      exact⟨true,C,rfl,by simpa using D⟩
     exact⟨j,p,rfl,w⟩
    conv=>whnf
    repeat' ((first|refine aP H ?_|refine dh t.2 ?_|refine ax (K _) ?_|refine ay ?_|refine av ?_|refine ptr ?_)<;>conv=>whnf)
    exact⟨j,p,rfl,w⟩
   have w:Grown h0 h b c u.aq.length m.locals A g p true:=by simpa using E
   conv=>whnf
   have t:=last g p true w R;cases en
   ·conv=>whnf
    repeat' ((first|refine aP H ?_|refine dh t.2 ?_|refine ax (K _) ?_|refine ay ?_|refine av ?_|refine ptr ?_)<;>conv=>whnf)
    apply aD<;>intro F;all_goals conv=>whnf
    ·repeat' ((first|refine ay ?_|refine av ?_|refine ptr ?_)<;>conv=>whnf)
     refine aG (t.1 F) (λv h9 d=>?_);refine d.elim λS d=>d.elim λC d=>?_;have o:=d.1;subst o;have D:=d.2.1;cases S
     ·conv=>whnf
      exact⟨true,C,rfl,by simpa using D⟩
     conv=>whnf
     exact⟨true,C,rfl,by simpa using D⟩
    exact⟨true,p,rfl,w⟩
   conv=>whnf
   repeat' ((first|refine aP H ?_|refine dh t.2 ?_|refine ax (K _) ?_|refine ay ?_|refine av ?_|refine ptr ?_)<;>conv=>whnf)
   exact⟨true,p,rfl,w⟩
def eS (m:cu) (i:Int):dc:=m.code.getD i.toNat dj
def gC (m:cu) (i:Int):Bool:=(decide (0 < i)&&jq (eS m (i-1)))||m.code.any (λx=>dG x&&decide (x.a=i))||m.catches.any (λc=>decide (c.to=i))
theorem mJ {a:Type} {l:List a} {d:a} {i:Nat} (h:i < l.length):l.getD i d=l[i]:=by simp[h]
theorem yp {a:Type} {l:List a} {p:a->Bool} {i:Nat} (b:i < l.length) (h:p l[i]=true):l.any p=true:=List.any_eq_true.2 ⟨_,List.getElem_mem b,h⟩
theorem any_none {b:Type} {l:List b} {p:b->Bool} (h:∀ j (a:j < l.length),p l[j]=false):l.any p=false:=by
 rw[List.any_eq_false];intro x c;obtain⟨j,a,rfl⟩:=List.mem_iff_getElem.1 c;rw[h j a];simp
theorem z5 (X:List Value) (m:cu) (a:Int) (h:Heap) (hm:dO h X m) (vX:0<=a/\a < m.code.length) :
  Pure prog 165 [.agg ⟨X⟩,.int .i64 a] h (.bool (gC m a)):=by
 obtain⟨I,E,A,F,J,G,B,H,rfl,k1,k2,k3,k4,k5,T,k7,V,d1,d2,d3,d4⟩:=hm.form;have C:gC m a=true->Value.bool true=.bool (gC m a):=λq=>by rw[q]
 have Y:gC m a=false->Value.bool false=.bool (gC m a):=λq=>by rw[q]
 have c:(decide (0 < a)&&jq (eS m (a-1)))=false->gC m a=(m.code.any (λx=>dG x&&decide (x.a=a))||m.catches.any (λaa=>decide (aa.to=a))):=λq=>by unfold gC;rw[q,Bool.false_or]
 have first:(decide (0 < a)&&jq (eS m (a-1)))=true->gC m a=true:=λq=>by unfold gC;rw[q,Bool.true_or,Bool.true_or]
 have S:∀ {i:Nat} (o:i < m.code.length),∃ f g,A=some ⟨f,g,none⟩/\dQ h f (g+i*3) 3=some [.int .i64 m.code[i].kind,.int .i64 m.code[i].a,.int .i64 m.code[i].b]:=λo=>by
  obtain⟨f,g,vi,e,f1,f2,f3⟩:=T.get o;subst f2;exact⟨f,g,e,f1⟩
 have W:∀ {i:Nat} (o:i < m.catches.length),∃ f g,B=some ⟨f,g,none⟩/\rd h f (g+i*4+2)=some (.int .i64 m.catches[i].to):=λo=>by
  obtain⟨f,g,vi,e,f1,f2,f3⟩:=V.get o;subst f2;exact⟨f,g,e,aM f1 (i:=2) rfl⟩
 clear k5 T k7 V;refine fD aB func165 Sr U rfl ?_;conv=>whnf
 apply aD<;>intro M;all_goals conv=>whnf
 ·have o:(a-1).toNat < m.code.length:=by omega
  obtain⟨f,g,e,f1⟩:=S o;have Q:=lF m.code[(a-1).toNat].kind m.code[(a-1).toNat].a m.code[(a-1).toNat].b h;have PO:eS m (a-1)=m.code[(a-1).toNat]:=mJ o;rw[PO]at c first;rw[decide_eq_true M,Bool.true_and]at c first;change Pure _ _ _ _ (.bool (jq m.code[(a-1).toNat]))at Q
  generalize jq m.code[(a-1).toNat]=en at Q c first;repeat' ((first|refine aP e ?_|refine dh f1 ?_|refine ax Q ?_|refine ay ?_|refine av ?_|refine ptr ?_)<;>conv=>whnf)
  cases en
  ·replace c:=c rfl
   conv=>whnf
   refine eu [1,2,5] [2] (λi:Nat=>i<=m.code.length/\∀ j (b:j < m.code.length),j < i->(dG m.code[j]&&decide (m.code[j].a=a))=false) (λi=>m.code.length-i)
    (λi=>([.v (.int .i64 a),.l 2 0,.v (.int .i64 i)],[some [.int .i64 m.cls,.int .i64 m.er,.slice I m.args.length E,.int .i64 m.out,.int .i64 m.locals,.slice A m.code.length F,.slice J m.aT.length G,.slice B m.catches.length H]],h)) 0 ⟨O,λ_ _ R=>O⟩ rfl ?_
   rintro i ⟨o,y⟩;conv=>whnf
   apply aD<;>intro t;all_goals conv=>whnf
   ·have s:i < m.code.length:=by omega
    obtain⟨f,g,e,f1⟩:=S s;have w:=aM f1 (i:=1) rfl;have b:=iC m.code[i].kind m.code[i].a m.code[i].b h;change Pure _ _ _ _ (.bool (dG m.code[i]))at b
    have D:dG m.code[i]=true->m.code[i].a=a->gC m a=true:=λK L=>by
     rw[c,yp s (by rw[K,decide_eq_true L];rfl),Bool.true_or]
    have next:(dG m.code[i]&&decide (m.code[i].a=a))=false->∀ j (b:j < m.code.length),j < i+1->(dG m.code[j]&&decide (m.code[j].a=a))=false:=λq j b v=>by
     rcases Nat.lt_succ_iff_lt_or_eq.1 v with u|rfl
     ·exact y j b u
     exact q
    generalize hjx:dG m.code[i]=j at b D next;repeat' ((first|refine aP e ?_|refine dh f1 ?_|refine ax b ?_|refine ay ?_|refine av ?_|refine ptr ?_)<;>conv=>whnf)
    cases j
    ·conv=>whnf
     refine av ?_;conv=>whnf
     exact cT (i+1) ⟨O,next rfl⟩ O rfl
    conv=>whnf
    repeat' ((first|refine aP e ?_|refine ld w ?_|refine ay ?_|refine av ?_|refine ptr ?_)<;>conv=>whnf)
    apply aD<;>intro d;all_goals conv=>whnf
    ·exact⟨C (D rfl d),rfl⟩
    refine av ?_;conv=>whnf
    exact cT (i+1) ⟨O,next (by rw[decide_eq_false d];rfl)⟩ O rfl
   have N:=any_none (p:=λx=>dG x&&decide (x.a=a)) (l:=m.code) (λj b=>y j b O);rw[N,Bool.false_or]at c;refine eu [1,2,6] [2] (λi:Nat=>i<=m.catches.length/\∀ j (b:j < m.catches.length),j < i->(decide (m.catches[j].to=a))=false) (λi=>m.catches.length-i)
    (λi=>([.v (.int .i64 a),.l 2 0,.v (.int .i64 i)],[some [.int .i64 m.cls,.int .i64 m.er,.slice I m.args.length E,.int .i64 m.out,.int .i64 m.locals,.slice A m.code.length F,.slice J m.aT.length G,.slice B m.catches.length H]],h)) 0 ⟨O,λ_ _ R=>O⟩ rfl ?_
   rintro i ⟨o,z⟩;conv=>whnf
   apply aD<;>intro t;all_goals conv=>whnf
   ·have s:i < m.catches.length:=by omega
    obtain⟨f,g,e,w⟩:=W s;repeat' ((first|refine aP e ?_|refine ld w ?_|refine ay ?_|refine av ?_|refine ptr ?_)<;>conv=>whnf)
    apply aD<;>intro d;all_goals conv=>whnf
    ·exact⟨C (by rw[c];exact yp s (decide_eq_true d)),rfl⟩
    refine av ?_;conv=>whnf
    refine cT (i+1) ⟨O,λj b v=>?_⟩ O rfl;rcases Nat.lt_succ_iff_lt_or_eq.1 v with u|rfl
    ·exact z j b u
    exact decide_eq_false d
   have P:=any_none (p:=λx:kg=>decide (x.to=a)) (l:=m.catches) (λj b=>z j b O);exact⟨Y (by rw[c];exact P),rfl⟩
  conv=>whnf
  exact⟨C (first rfl),rfl⟩
 rw[decide_eq_false M,Bool.false_and]at c;replace c:=c rfl
 refine eu [1,2,5] [2] (λi:Nat=>i<=m.code.length/\∀ j (b:j < m.code.length),j < i->(dG m.code[j]&&decide (m.code[j].a=a))=false) (λi=>m.code.length-i)
  (λi=>([.v (.int .i64 a),.l 2 0,.v (.int .i64 i)],[some [.int .i64 m.cls,.int .i64 m.er,.slice I m.args.length E,.int .i64 m.out,.int .i64 m.locals,.slice A m.code.length F,.slice J m.aT.length G,.slice B m.catches.length H]],h)) 0 ⟨O,λ_ _ R=>O⟩ rfl ?_
 rintro i ⟨o,y⟩;conv=>whnf
 apply aD<;>intro t;all_goals conv=>whnf
 ·have s:i < m.code.length:=by omega
  obtain⟨f,g,e,f1⟩:=S s;have w:=aM f1 (i:=1) rfl;have b:=iC m.code[i].kind m.code[i].a m.code[i].b h;change Pure _ _ _ _ (.bool (dG m.code[i]))at b
  have D:dG m.code[i]=true->m.code[i].a=a->gC m a=true:=λK L=>by
   rw[c,yp s (by rw[K,decide_eq_true L];rfl),Bool.true_or]
  have next:(dG m.code[i]&&decide (m.code[i].a=a))=false->∀ j (b:j < m.code.length),j < i+1->(dG m.code[j]&&decide (m.code[j].a=a))=false:=λq j b v=>by
   rcases Nat.lt_succ_iff_lt_or_eq.1 v with u|rfl
   ·exact y j b u
   exact q
  generalize hjx:dG m.code[i]=j at b D next;repeat' ((first|refine aP e ?_|refine dh f1 ?_|refine ax b ?_|refine ay ?_|refine av ?_|refine ptr ?_)<;>conv=>whnf)
  cases j
  ·conv=>whnf
   refine av ?_;conv=>whnf
   exact cT (i+1) ⟨O,next rfl⟩ O rfl
  conv=>whnf
  repeat' ((first|refine aP e ?_|refine ld w ?_|refine ay ?_|refine av ?_|refine ptr ?_)<;>conv=>whnf)
  apply aD<;>intro d;all_goals conv=>whnf
  ·exact⟨C (D rfl d),rfl⟩
  refine av ?_;conv=>whnf
  exact cT (i+1) ⟨O,next (by rw[decide_eq_false d];rfl)⟩ O rfl
 have N:=any_none (p:=λx=>dG x&&decide (x.a=a)) (l:=m.code) (λj b=>y j b O);rw[N,Bool.false_or]at c;refine eu [1,2,6] [2] (λi:Nat=>i<=m.catches.length/\∀ j (b:j < m.catches.length),j < i->(decide (m.catches[j].to=a))=false) (λi=>m.catches.length-i)
  (λi=>([.v (.int .i64 a),.l 2 0,.v (.int .i64 i)],[some [.int .i64 m.cls,.int .i64 m.er,.slice I m.args.length E,.int .i64 m.out,.int .i64 m.locals,.slice A m.code.length F,.slice J m.aT.length G,.slice B m.catches.length H]],h)) 0 ⟨O,λ_ _ R=>O⟩ rfl ?_
 rintro i ⟨o,z⟩;conv=>whnf
 apply aD<;>intro t;all_goals conv=>whnf
 ·have s:i < m.catches.length:=by omega
  obtain⟨f,g,e,w⟩:=W s;repeat' ((first|refine aP e ?_|refine ld w ?_|refine ay ?_|refine av ?_|refine ptr ?_)<;>conv=>whnf)
  apply aD<;>intro d;all_goals conv=>whnf
  ·exact⟨C (by rw[c];exact yp s (decide_eq_true d)),rfl⟩
  refine av ?_;conv=>whnf
  refine cT (i+1) ⟨O,λj b v=>?_⟩ O rfl;rcases Nat.lt_succ_iff_lt_or_eq.1 v with u|rfl
  ·exact z j b u
  exact decide_eq_false d
 have P:=any_none (p:=λx:kg=>decide (x.to=a)) (l:=m.catches) (λj b=>z j b O);exact⟨Y (by rw[c];exact P),rfl⟩
def wS (r:List Value):Prop:=∃ p c q d,r=[.bool false,.slice p 0 c,.slice q 0 d]
theorem wS.ML {r:List Value} (a:wS r) (h:Heap):jJ h r j6:=by
 obtain⟨p,c,q,d,rfl⟩:=a;exact⟨_,_,rfl,fO _ _ _,fO _ _ _⟩
theorem wT {h h':Heap} {p:Option Addr} {k c:Nat} {recs:List (List Value)} {B:List Nat} (e:bW 3 h' (.slice p k c) recs B) (d:recs.length=k) (v:1<=k) (o:∀ r∈recs,wS r) (g:∀ b∈B,h b=none) (i:h.le h') :
  ∃ b,p=some ⟨b,0,none⟩/\fY h h' b c (List.replicate k j6):=by
 have m:=e;obtain⟨x,⟨a,j,_⟩|⟨b,q,rest,z,a,u,t,_,rfl⟩⟩:=e
 ·rw[j]at d;simp at d;omega
 simp only[Value.slice.injEq]at a;obtain⟨rfl,w,rfl⟩:=a;refine⟨b,rfl,i,g b Z,recs,by simpa using m,by simpa using d,λy f s=>?_⟩;rw[List.getElem_replicate];exact(o _ (List.getElem_mem f)).ML _
theorem B9 (S C:List Value) (u:aS) (m:cu) (h:Heap) (hu:cZ h S u) (z:dO h C m) (hV:D8 u) (x:MJ u m) :
  bI prog 131 [.agg ⟨S⟩,.agg ⟨C⟩] h
   λv h'=>h.le h'/\∃ b c A,v=.slice (some ⟨b,0,none⟩) A.length c/\fY h h' b c A/\A.length=m.code.length/\nP u.aq.length m.locals A:=by
 have oT:=hu;have PF:=z;have ok:=hV.1;have vL:=ok.2.1;have we:=x.head.2.2.2.2.1;have rG:=x.len;have Jm:=λL b c A W ae hA UL vX=>zZ S C u m h L b c A W hu z hV x ae hA UL vX;have vg:=λa (hl:h.le a)=>pT S C m u.aq.length a (z.le hl) x.head vL;have PR:=λW a (hl:h.le a) vX=>z5 C m W a (z.le hl) vX;obtain⟨ab,X,ad,aa,rfl,hcs,kS,ko,hl2⟩:=hu.form;obtain⟨N,G,P,H,Q,I,R,J,rfl,k1,k2,k3,k4,k5,k6,k7,k8,d1,d2,d3,d4⟩:=z.form;refine bT aB func131 R2 U rfl ?_;conv=>whnf
 refine dn [] rfl (λw L CQ e0 l1 g0=>?_);conv=>whnf
 have o0:bW 3 L (.slice (some ⟨w,0,none⟩) 0 0) [] [w]:=⟨Z,.inr ⟨w,0,[],_,rfl,Z,by simpa using g0,Z,rfl⟩⟩
 refine eu [2,3,5,6] [2,3] (λy:Nat × Heap × Option Addr × Nat × List (List Value) × List Nat=>y.1<=m.code.length/\h.le y.2.1/\bW 3 y.2.1 (.slice y.2.2.1 y.1 y.2.2.2.1) y.2.2.2.2.1 y.2.2.2.2.2/\y.2.2.2.2.1.length=y.1/\(∀ r∈y.2.2.2.2.1,wS r)/\∀ b∈y.2.2.2.2.2,h b=none) (λy=>m.code.length-y.1)
  (λy=>([.l 2 0,.l 3 0,.v (.slice y.2.2.1 y.1 y.2.2.2.1),.v (.int .i64 y.1)],
   [some [.slice ab u.aq.length X,.slice ad u.methods.length aa],some [.int .i64 m.cls,.int .i64 m.er,.slice N m.args.length G,.int .i64 m.out,.int .i64 m.locals,.slice P m.code.length H,.slice Q m.aT.length I,.slice R m.catches.length J]],y.2.1))
  (0,L,some ⟨w,0,none⟩,0,[],[w]) ⟨O,l1,o0,rfl,Z,by simpa using CQ⟩ rfl ?_
 rintro⟨k,h2,pa,j,recs,B⟩ ⟨hk,l2,o2,n2,r2,f2⟩;simp only at hk l2 o2 n2 r2 f2 ⊢;conv=>whnf
 apply aD<;>intro af;all_goals conv=>whnf
 ·refine aG (iB h2) (λv h3 a=>?_);have M:=a.1;refine a.2.elim λE a=>a.elim λF o=>?_;subst o;conv=>whnf
  refine cX (h0:=h) (xs:=recs) (ys:=[[.bool false,.slice (some ⟨E,0,none⟩) 0 0,.slice (some ⟨F,0,none⟩) 0 0]]) (B:=B) (o2.aJ (cD.of_le M _)) f2 (Heap.le_trans l2 M) rfl rfl Z rfl rfl (by simp;omega) (by simp;omega) ?_;intro v4 h4 B4 w1 w2 w3 w4 w5;have ff:=w2.form;refine ff.elim λp5 ff=>ff.elim λc5 hf=>?_;have Xw:=hf.1;have UH:(recs++[[Value.bool false,.slice (some ⟨E,0,none⟩) 0 0,.slice (some ⟨F,0,none⟩) 0 0]]).length=k+1:=by simp[n2]
  rw[UH]at Xw;subst Xw;conv=>whnf
  refine av ?_;conv=>whnf
  refine cT (k+1,h4,p5,c5,recs++[[.bool false,.slice (some ⟨E,0,none⟩) 0 0,.slice (some ⟨F,0,none⟩) 0 0]],B4) ⟨by simp only;omega,w1,w2,UH,λr e=>?_,w3⟩ (by simp only;omega) rfl;rcases List.mem_append.1 e with e|e
  ·exact r2 r e
  rw[List.mem_singleton.1 e];exact⟨_,_,_,_,rfl⟩
 have UU:k=m.code.length:=by omega
 subst UU;obtain⟨b,rfl,D⟩:=wT o2 n2 rG.1 r2 f2 l2;obtain⟨ah,zl⟩:=D.in;have Xk:(List.replicate m.code.length j6).length=m.code.length:=by simp
 refine jf zl (vg (bh h2 b) D.hle) (λv h3 M e=>?_);have a3:=D.aJ M;refine e.elim λq1 e=>e.elim λe1 e=>e.elim λq2 e=>e.elim λe2 e=>?_;have o:=e.1;subst o;have KN:=e.2;refine(a3.at (i:=0) O).elim λ_ d=>d.elim λ_ d=>d.elim λ_ d=>d.elim λ_ d=>?_;have put:=d.2.2.2;conv=>whnf
 repeat' ((first|refine ay ?_|refine av ?_|refine ptr ?_)<;>conv=>whnf)
 refine put _ (gL m) _ (vY.of KN) (λh4 Ky a4=>?_);have v4:nP u.aq.length m.locals ((List.replicate m.code.length j6).set 0 (gL m)):=qZ (λai hs ht=>by rw[List.eq_of_mem_replicate hs]at ht;cases ht) 0 (λ_=>qX x.head vL);have n4:((List.replicate m.code.length j6).set 0 (gL m)).length=m.code.length:=by simp
 generalize (List.replicate m.code.length j6).set 0 (gL m)=A4 at a4 v4 n4;clear put d KN a3 D;conv=>whnf
 refine eu [2,3,5,7] [2,3] (λy:Heap × List dF × Bool=>fY h y.1 b j y.2.1/\nP u.aq.length m.locals y.2.1/\y.2.1.length=m.code.length) (λy=>2*mu y.2.1+y.2.2.toNat)
  (λy=>([.l 2 0,.l 3 0,.v (.slice (some ⟨b,0,none⟩) m.code.length j),.v (.bool y.2.2)],
   [some [.slice ab u.aq.length X,.slice ad u.methods.length aa],some [.int .i64 m.cls,.int .i64 m.er,.slice N m.args.length G,.int .i64 m.out,.int .i64 m.locals,.slice P m.code.length H,.slice Q m.aT.length I,.slice R m.catches.length J]],y.1))
  (h4,A4,true) ⟨a4,v4,n4⟩ rfl ?_
 rintro⟨h5,t,ch5⟩ ⟨V,v5,n5⟩;simp only at V v5 n5 ⊢;cases ch5
 ·conv=>whnf
  refine eu [3,5,9] [3] (λy:Nat × Heap × List dF=>y.1<=m.code.length/\fY h y.2.1 b j y.2.2/\nP u.aq.length m.locals y.2.2/\y.2.2.length=m.code.length) (λy=>m.code.length-y.1)
   (λy=>([.l 3 0,.v (.slice (some ⟨b,0,none⟩) m.code.length j),.v (.int .i64 y.1)],
    [some [.int .i64 m.cls,.int .i64 m.er,.slice N m.args.length G,.int .i64 m.out,.int .i64 m.locals,.slice P m.code.length H,.slice Q m.aT.length I,.slice R m.catches.length J]],y.2.1))
   (0,h5,t) ⟨O,V,v5,n5⟩ rfl ?_
  rintro⟨i,q,f⟩ ⟨hi,p,T,s⟩;simp only at hi p T s ⊢;conv=>whnf
  apply aD<;>intro K;all_goals conv=>whnf
  ·have hw:=PR i q p.le ⟨O,K⟩;generalize gC m i=ag at hw;refine ax hw ?_;cases ag
   ·conv=>whnf
    refine aG (iB q) (λv h7 a=>?_);have l7:=a.1;refine a.2.elim λE a=>a.elim λF o=>?_;subst o;have a7:=p.aJ l7;refine(a7.at (i:=i) O).elim λ_ d=>d.elim λ_ d=>d.elim λ_ d=>d.elim λ_ d=>?_;have put:=d.2.2.2;conv=>whnf
    repeat' ((first|refine ay ?_|refine av ?_|refine ptr ?_)<;>conv=>whnf)
    refine put _ j6 _ (wS.ML ⟨_,_,_,_,rfl⟩ _) (λh8 hh8 a8=>?_);conv=>whnf
    refine av ?_;conv=>whnf
    exact cT (i+1,h8,f.set i j6) ⟨by simp only;omega,a8,qZ T i (λhx=>by cases hx),by simpa using s⟩ (by simp only;omega) rfl
   conv=>whnf
   refine av ?_;conv=>whnf
   exact cT (i+1,q,f) ⟨by simp only;omega,p,T,s⟩ (by simp only;omega) rfl
  exact⟨p.le,b,j,f,by rw[s],p,s,T⟩
 conv=>whnf
 refine eu [2,3,5,7,8] [2,3] (λy:Nat × Heap × List dF × Bool=>y.1<=m.code.length/\Grown h h5 b j u.aq.length m.locals t y.2.1 y.2.2.1 y.2.2.2) (λy=>m.code.length-y.1)
  (λy=>([.l 2 0,.l 3 0,.v (.slice (some ⟨b,0,none⟩) m.code.length j),.v (.bool y.2.2.2),.v (.int .i64 y.1)],
   [some [.slice ab u.aq.length X,.slice ad u.methods.length aa],some [.int .i64 m.cls,.int .i64 m.er,.slice N m.args.length G,.int .i64 m.out,.int .i64 m.locals,.slice P m.code.length H,.slice Q m.aT.length I,.slice R m.catches.length J]],y.2.1))
  (0,h5,t,false) ⟨O,Grown.start V v5⟩ rfl ?_
 rintro⟨i,q,f,Y⟩ ⟨hi,g⟩;simp only at hi g ⊢;have s:=g.len;conv=>whnf
 apply aD<;>intro K;all_goals conv=>whnf
 ·have QA:=Jm q b j f i g.all g.val O ⟨O,O⟩;rw[show f.length=m.code.length by omega]at QA;refine aG QA (λv h7 a=>?_);refine a.elim λch7 a=>a.elim λA7 a=>?_;have o:=a.1;subst o;have g7:=g.trans a.2;cases ch7
  ·conv=>whnf
   refine av ?_;conv=>whnf
   exact cT (i+1,h7,A7,Y) ⟨by simp only;omega,by simpa using g7⟩ (by simp only;omega) rfl
  conv=>whnf
  refine av ?_;conv=>whnf
  exact cT (i+1,h7,A7,true) ⟨by simp only;omega,by simpa using g7⟩ (by simp only;omega) rfl
 refine cT (q,f,Y) ⟨g.all,g.val,by simp only;omega⟩ ?_ rfl;have NB:=g.mu;have hls:=g.less;cases Y
 ·show 2*mu f+0 < 2*mu t+1;omega
 have:=hls rfl;show 2*mu f+1 < 2*mu t+1;omega
def gy (m:cu) (i:Int):dF:=m.aT.getD i.toNat j6
def gR (u:aS) (m:cu) (i:Int) (s:dF):Bool:=(gy m i).told&&yF u.aq s (gy m i)
def mK (u:aS) (m:cu) (i:Int) (s a:dF):Bool:=(!dG (eS m i)||gR u m (eS m i).a a)&&m.catches.all (λc=>!decide (c.lo<=i/\i<=c.hi-1)||gR u m c.to (eo c.cls s))
structure QX (u:aS) (m:cu):Prop where
 mi:MJ u m
 num:m.aT.length=m.code.length
 val:nP u.aq.length m.locals m.aT
theorem all_none {a:Type} {l:List a} {p:a->Bool} {i:Nat} (b:i < l.length) (h:p l[i]=false):l.all p=false:=by
 rw[List.all_eq_false];exact⟨_,List.getElem_mem b,by rw[h];simp⟩
theorem GX {b:Type} {l:List b} {p:b->Bool} (h:∀ j (a:j < l.length),p l[j]=true):l.all p=true:=by
 rw[List.all_eq_true];intro x c;obtain⟨j,a,rfl⟩:=List.mem_iff_getElem.1 c;exact h j a
theorem GY {h:Heap} {p:Option Addr} {n c:Nat} {l:List dF} (u:Row 3 jJ h (.slice p n c) l) {i:Nat} (s:i < l.length):∃ b o e a f d,p=some ⟨b,o,none⟩/\dQ h b (o+i*3) 3=some [.bool l[i].told,.slice e l[i].locals.length a,.slice f l[i].stack.length d]/\rd h b (o+i*3)=some (.bool l[i].told)/\oN h l[i] e f a d:=by
 obtain⟨b,o,w,t,g,v,k,q,j,m⟩:=u.get s;have f1:=j.len;obtain⟨e,a,rfl,_,_⟩:=f1;have f2:=m.len;obtain⟨f,d,rfl,_,_⟩:=f2;subst q;exact⟨b,o,e,a,f,d,t,g,by simpa using aM g (i:=0) rfl,j,m⟩
theorem Ec (q p:List Value) (u:aS) (m:cu) (a:Int) (s:dF) (v:Value) (h:Heap) (E:cZ h q u) (C:dO h p m) (ok:cn u.aq) (j:QX u m) (V:0<=a/\a < m.code.length) (g:qW u.aq.length m.locals s) (D:vY h v s) :
  Pure prog 162 [.agg ⟨q⟩,.agg ⟨p⟩,.int .i64 a,v] h (.bool (gR u m a s)):=by
 obtain⟨J,w,ab,T,rfl,A,Y,W,X⟩:=E.form;obtain⟨p1,P,p2,Q,p3,R,p4,S,rfl,k1,k2,k3,k4,k5,k6,F,k8,d1,d2,d3,d4⟩:=C.form;obtain⟨K,x,L,y,rfl,z⟩:=D;have MM:=j.num;have f:a.toNat < m.aT.length:=by omega
 obtain⟨N,aa,lp,I,H,G,o,f1,f2,i⟩:=GY F f;have B:gy m a=m.aT[a.toNat]:=mJ f;have c:=j.val _ (List.getElem_mem f);unfold gR;rw[B];generalize m.aT[a.toNat]=r at f1 f2 i c;have d:=λb:r.told=true=>yj J u.aq.length w u.aq s r K L lp H x y I G h A ok z i (by have:=(c b).loc;have:=g.loc;omega) (λt b=>(g.nK t b).2) (λt b=>(g.cA t b).2) (λt e=>((c b).nK t e).2) (λt e=>((c b).cA t e).2);refine fD aB func162 Sp U rfl ?_;conv=>whnf
 generalize hrt:r.told=M at f1 f2 d ⊢;cases M
 ·repeat' ((first|exact trivial|exact⟨rfl,rfl⟩|apply And.intro|refine ay ?_|refine aP o ?_|refine ld f2 ?_)<;>conv=>whnf)
 have d:=d rfl;repeat' ((first|exact trivial|exact⟨rfl,rfl⟩|apply And.intro|refine ay ?_|refine aP o ?_|refine ld f2 ?_|refine dh f1 ?_|refine aO d ?_)<;>conv=>whnf)
theorem Ca (us ms:List Value) (u:aS) (m:cu) (a:Int) (s e:dF) (v w:Value) (h:Heap) (hu:cZ h us u) (hm:dO h ms m) (ok:cn u.aq) (B:QX u m) (vX:0<=a/\a < m.code.length) (hs:qW u.aq.length m.locals s) (hr:vY h v s) (hn:qW u.aq.length m.locals e) (hw:vY h w e) :
  bI prog 129 [.agg ⟨us⟩,.agg ⟨ms⟩,.int .i64 a,v,w] h λx h'=>h.le h'/\x=.bool (mK u m a s e):=by
 have Db:=λi q (hl:h.le q) vX x y T V=>Ec us ms u m i x y q (hu.le hl) (hm.le hl) ok B vX T V;obtain⟨ad,cc,ae,ab,rfl,hcs,kS,ko,hl2⟩:=hu.form;obtain⟨p1,c1,p2,c2,p3,c3,p4,c4,rfl,k1,k2,k3,k4,k5,k6,k7,k8,d1,d2,d3,d4⟩:=hm.form;obtain⟨q1,X,q2,Y,rfl,hI⟩:=hr;have AI:=hw;obtain⟨q3,e3,q4,e4,rfl,hJ⟩:=hw;have vL:=ok.2.1;have rG:=B.mi.len;have Xq:=B.mi.cat.1;have we:=B.mi.head.2.2.2.2.1;have KI:=hs.loc;have MK:a.toNat < m.code.length:=by omega
 obtain⟨bi,oi,vi,Jn,f1,f2,f3⟩:=k6.get MK;have xG:eS m a=m.code[a.toNat]:=mJ MK;have J:=λd=>(B.mi.code _ (List.getElem_mem MK)).jump d;subst f2;have F:=λC=>iC m.code[a.toNat].kind m.code[a.toNat].a m.code[a.toNat].b C;have o:mK u m a s e=((!dG m.code[a.toNat]||gR u m m.code[a.toNat].a e)&&m.catches.all (λW=>!decide (W.lo<=a/\a<=W.hi-1)||gR u m W.to (eo W.cls s))):=by unfold mK;rw[xG]
 change ∀ C,Pure _ _ _ C (.bool (dG m.code[a.toNat]))at F
 generalize m.code[a.toNat]=x at f1 J F o;obtain⟨ik,p,ib⟩:=x;simp only at f1 J o F;have r1:=aM f1 (i:=1) rfl;generalize dG ⟨ik,p,ib⟩=j at F J o;generalize mK u m a s e=res at o;have fin:∀ {aa:Bool} {h':Heap},h.le h'->res=aa->h.le h'/\Value.bool aa=.bool res:=λhl f=>⟨hl,by rw[f]⟩
 refine bT aB func129 R0 U rfl ?_;conv=>whnf
 have S:(j=true/\gR u m p e=false/\0<=p/\p < m.code.length)\/((!j||gR u m p e)=true/\(j=true->0<=p/\p < m.code.length)):=by
  cases j
  ·exact .inr ⟨rfl,J⟩
  cases ht:gR u m p e
  ·exact .inl ⟨rfl,rfl,J rfl⟩
  exact .inr ⟨rfl,J⟩
 have loop:True:=trivial;rcases S with ⟨rfl,ht,PO⟩|⟨S,PO⟩
 ·have q:=Db p h (Heap.le_refl h) PO e _ hn AI;rw[ht]at q o;repeat' ((first|exact trivial|exact fin (Heap.le_refl h) o|apply And.intro|refine ay ?_|refine aP Jn ?_|refine dh f1 ?_|refine ld r1 ?_|refine aO (F _) ?_|refine aO q ?_)<;>conv=>whnf)
 rw[S,Bool.true_and]at o;have q:=λd=>Db p h (Heap.le_refl h) (PO d) e _ hn AI;have UW:j=true->gR u m p e=true:=λf=>by rw[f]at S;simpa using S
 cases j
 ·repeat' ((first|exact trivial|apply And.intro|refine ay ?_|refine aP Jn ?_|refine dh f1 ?_|refine ld r1 ?_|refine aO (F _) ?_)<;>conv=>whnf)
  all_goals
   refine eu [2,5,6,8,11] [5,6,8] (λy:Nat × Heap=>y.1<=m.catches.length/\h.le y.2/\∀ j (d:j < m.catches.length),j < y.1->(!decide (m.catches[j].lo<=a/\a<=m.catches[j].hi-1)||gR u m m.catches[j].to (eo m.catches[j].cls s))=true) (λy=>m.catches.length-y.1)
    (λy=>([.v (.int .i64 a),.l 5 0,.l 6 0,.l 8 0,.v (.int .i64 y.1)],
     [some [.slice ad u.aq.length cc,.slice ae u.methods.length ab],some [.int .i64 m.cls,.int .i64 m.er,.slice p1 m.args.length c1,.int .i64 m.out,.int .i64 m.locals,.slice p2 m.code.length c2,.slice p3 m.aT.length c3,.slice p4 m.catches.length c4],some [.bool s.told,.slice q1 s.locals.length X,.slice q2 s.stack.length Y]],y.2))
    (0,h) ⟨O,Heap.le_refl h,λ_ _ T=>by simp only at T;omega⟩ rfl ?_
   rintro⟨i,P⟩ ⟨PI,c,A⟩;simp only at PI c A ⊢;conv=>whnf
   apply aD<;>intro g2;all_goals conv=>whnf
   ·have E:i < m.catches.length:=by omega
    obtain⟨bb,off,vs,GU,I,w2,w3⟩:=k8.get E;subst w2;have R:=B.mi.cat.2 _ (List.getElem_mem E);have g:(!decide (m.catches[i].lo<=a/\a<=m.catches[i].hi-1)||gR u m m.catches[i].to (eo m.catches[i].cls s))=false->res=false:=λf=>by rw[o];exact all_none E f
    have next:(!decide (m.catches[i].lo<=a/\a<=m.catches[i].hi-1)||gR u m m.catches[i].to (eo m.catches[i].cls s))=true->∀ j (d:j < m.catches.length),j < i+1->(!decide (m.catches[j].lo<=a/\a<=m.catches[j].hi-1)||gR u m m.catches[j].to (eo m.catches[j].cls s))=true:=λf j d Fm=>by
     rcases Nat.lt_succ_iff_lt_or_eq.1 Fm with IK|rfl
     ·exact A j d IK
     exact f
    generalize m.catches[i]=ct at I w3 R g next;obtain⟨H,D,to,cls⟩:=ct;obtain⟨⟨PJ,PK,K,L⟩,⟨PL,PM⟩,⟨M,N⟩,_⟩:=R;simp only at I PJ PK K L PL PM M N g next;have GV:=gv c _ _ _ I;repeat' ((first|refine aP GU ?_|refine dh GV ?_|refine ay ?_|refine av ?_|refine ptr ?_)<;>conv=>whnf)
    have t:=λC=>de a H (D-1) C;have Km:=sD hs ⟨M,N⟩;have Q:=nM H D to cls s q1 q2 X Y P (hI.le c) O O;generalize decide (H<=a/\a<=D-1)=PN at t g next;cases PN
    ·repeat' ((first|exact trivial|apply And.intro|refine av ?_|refine aO (t _) ?_)<;>conv=>whnf)
     all_goals exact cT (i+1,P) ⟨by simp only;omega,c,next rfl⟩ (by simp only;omega) rfl
    have G:=λz l7 y V=>Db to z (Heap.le_trans c l7) ⟨K,L⟩ (eo cls s) y Km V;generalize gR u m to (eo cls s)=tl at G g next;cases tl
    ·have qH:=g rfl;repeat' ((first|exact trivial|exact fin (Heap.le_trans c b.1) qH|apply And.intro|refine av ?_|refine aO (t _) ?_|refine cO Q (λv z b=>⟨b.1,?_⟩)|refine aO (G _ b.1 _ b.2) ?_)<;>conv=>whnf)
    have next:=next rfl;repeat' ((first|exact trivial|apply And.intro|refine av ?_|refine aO (t _) ?_|refine cO Q (λv z b=>⟨b.1,?_⟩)|refine aO (G _ b.1 _ b.2) ?_)<;>conv=>whnf)
    all_goals exact cT (i+1,z) ⟨by simp only;omega,Heap.le_trans c b.1,next⟩ (by simp only;omega) rfl
   exact fin c (by rw[o];exact GX λj d=>A j d O)
 have q:=q rfl;rw[UW rfl]at q;repeat' ((first|exact trivial|apply And.intro|refine ay ?_|refine aP Jn ?_|refine dh f1 ?_|refine ld r1 ?_|refine aO (F _) ?_|refine aO q ?_)<;>conv=>whnf)
 all_goals
  refine eu [2,5,6,8,11] [5,6,8] (λy:Nat × Heap=>y.1<=m.catches.length/\h.le y.2/\∀ j (d:j < m.catches.length),j < y.1->(!decide (m.catches[j].lo<=a/\a<=m.catches[j].hi-1)||gR u m m.catches[j].to (eo m.catches[j].cls s))=true) (λy=>m.catches.length-y.1)
   (λy=>([.v (.int .i64 a),.l 5 0,.l 6 0,.l 8 0,.v (.int .i64 y.1)],
    [some [.slice ad u.aq.length cc,.slice ae u.methods.length ab],some [.int .i64 m.cls,.int .i64 m.er,.slice p1 m.args.length c1,.int .i64 m.out,.int .i64 m.locals,.slice p2 m.code.length c2,.slice p3 m.aT.length c3,.slice p4 m.catches.length c4],some [.bool s.told,.slice q1 s.locals.length X,.slice q2 s.stack.length Y]],y.2))
   (0,h) ⟨O,Heap.le_refl h,λ_ _ T=>by simp only at T;omega⟩ rfl ?_
  rintro⟨i,P⟩ ⟨PI,c,A⟩;simp only at PI c A ⊢;conv=>whnf
  apply aD<;>intro g2;all_goals conv=>whnf
  ·have E:i < m.catches.length:=by omega
   obtain⟨bb,off,vs,GU,I,w2,w3⟩:=k8.get E;subst w2;have R:=B.mi.cat.2 _ (List.getElem_mem E);have g:(!decide (m.catches[i].lo<=a/\a<=m.catches[i].hi-1)||gR u m m.catches[i].to (eo m.catches[i].cls s))=false->res=false:=λf=>by rw[o];exact all_none E f
   have next:(!decide (m.catches[i].lo<=a/\a<=m.catches[i].hi-1)||gR u m m.catches[i].to (eo m.catches[i].cls s))=true->∀ j (d:j < m.catches.length),j < i+1->(!decide (m.catches[j].lo<=a/\a<=m.catches[j].hi-1)||gR u m m.catches[j].to (eo m.catches[j].cls s))=true:=λf j d Fm=>by
    rcases Nat.lt_succ_iff_lt_or_eq.1 Fm with IK|rfl
    ·exact A j d IK
    exact f
   generalize m.catches[i]=ct at I w3 R g next;obtain⟨H,D,to,cls⟩:=ct;obtain⟨⟨PJ,PK,K,L⟩,⟨PL,PM⟩,⟨M,N⟩,_⟩:=R;simp only at I PJ PK K L PL PM M N g next;have GV:=gv c _ _ _ I;repeat' ((first|refine aP GU ?_|refine dh GV ?_|refine ay ?_|refine av ?_|refine ptr ?_)<;>conv=>whnf)
   have t:=λC=>de a H (D-1) C;have Km:=sD hs ⟨M,N⟩;have Q:=nM H D to cls s q1 q2 X Y P (hI.le c) O O;generalize decide (H<=a/\a<=D-1)=PN at t g next;cases PN
   ·repeat' ((first|exact trivial|apply And.intro|refine av ?_|refine aO (t _) ?_)<;>conv=>whnf)
    all_goals exact cT (i+1,P) ⟨by simp only;omega,c,next rfl⟩ (by simp only;omega) rfl
   have G:=λz l7 y V=>Db to z (Heap.le_trans c l7) ⟨K,L⟩ (eo cls s) y Km V;generalize gR u m to (eo cls s)=tl at G g next;cases tl
   ·have qH:=g rfl;repeat' ((first|exact trivial|exact fin (Heap.le_trans c b.1) qH|apply And.intro|refine av ?_|refine aO (t _) ?_|refine cO Q (λv z b=>⟨b.1,?_⟩)|refine aO (G _ b.1 _ b.2) ?_)<;>conv=>whnf)
   have next:=next rfl;repeat' ((first|exact trivial|apply And.intro|refine av ?_|refine aO (t _) ?_|refine cO Q (λv z b=>⟨b.1,?_⟩)|refine aO (G _ b.1 _ b.2) ?_)<;>conv=>whnf)
   all_goals exact cT (i+1,z) ⟨by simp only;omega,Heap.le_trans c b.1,next⟩ (by simp only;omega) rfl
  exact fin c (by rw[o];exact GX λj d=>A j d O)
end Go.Proofs
