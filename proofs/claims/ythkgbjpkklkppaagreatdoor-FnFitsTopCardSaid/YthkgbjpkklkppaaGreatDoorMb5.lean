/- Lemmas. -/
import Derived.Test.YthkgbjpkklkppaaGreatDoorMb4
set_option linter.unusedSimpArgs false
set_option linter.unusedVariables false
namespace Go.Proofs
open Go.Vc Go.Proofs.Tryz
def F_:PT:=.one 13 (.one 14 (.one 15 .nil))
def D_:PT:=.one 12 F_
def C_:PT:=.one 13 (.one 14 (.one 15 (.one 16 .nil)))
def B_:PT:=.alt 6 (.one 9 F_) (.alt 9 (.one 6 F_) .kA)
set_option maxRecDepth 100000
set_option maxHeartbeats 4000000
theorem oQ {objs a:List Ob} {f f':cJ} {v:Vl} (h:ey objs f v=.ok (a,f')):a=objs:=by
 unfold ey at h;split at h
 ·simp only[Except.ok.injEq,Prod.mk.injEq]at h;exact h.1.symm
 cases h
theorem wV {u:aI} {x:dc} {b:List Vl} {objs a:List Ob} {f f':cJ} (h:gr u x b objs f=.ok (a,f')):a.length=objs.length\/a.length=objs.length+1:=by
 unfold gr at h;simp only[uM]at h;repeat' split at h
 all_goals first
  | (have:=oQ h;subst this;simp;done)
  | (simp only[Except.ok.injEq,Prod.mk.injEq]at h;obtain⟨rfl,_⟩:=h;simp[gU];done)
  | (cases h;done)
theorem CL {u:aI} {x:dc} {I:List Vl} {objs b:List Ob} {f i:cJ} {a c:List Int} {j:Bool} (h:lU u x I objs f a=.ok (b,i,c,j)) :
  (b.length=objs.length\/b.length=objs.length+1)/\(c.length=a.length\/c.length=a.length+1):=by
 have g:∀ {f1:cJ} {F:Vl},fV objs f1 a F=.ok (b,i,c,j)->(b.length=objs.length\/b.length=objs.length+1)/\(c.length=a.length\/c.length=a.length+1):=by
  intro f1 F h;obtain⟨J,G,m,e⟩:=nJ h;simp only[Prod.mk.injEq]at e;obtain⟨rfl,rfl,rfl,rfl⟩:=e;rw[oQ m];simp
 have d:∀ {s:List Int} {f1:cJ} {o:Bool},(s.length=a.length\/s.length=a.length+1)->(Except.ok (objs,f1,s,o):JT)=.ok (b,i,c,j)->(b.length=objs.length\/b.length=objs.length+1)/\(c.length=a.length\/c.length=a.length+1):=by
  intro s f1 o H e;simp only[Except.ok.injEq,Prod.mk.injEq]at e;obtain⟨rfl,rfl,rfl,rfl⟩:=e;exact⟨.inl rfl,H⟩
 unfold lU at h;simp only at h;by_cases p:x.kind=1
 ·rw[if_pos p]at h;exact g h
 rw[if_neg p]at h;by_cases v:x.kind=2
 ·rw[if_pos v]at h;exact g h
 rw[if_neg v]at h;by_cases y:x.kind=3
 ·rw[if_pos y]at h;exact g h
 rw[if_neg y]at h;by_cases z:x.kind=4
 ·rw[if_pos z]at h;exact d (.inl rfl) h
 rw[if_neg z]at h;by_cases A:x.kind=5
 ·rw[if_pos A]at h;exact d (.inl rfl) h
 rw[if_neg A]at h;by_cases B:x.kind=6
 ·rw[if_pos B]at h;split at h
  ·exact g h
  cases h
 rw[if_neg B]at h;by_cases C:x.kind=7
 ·rw[if_pos C]at h;split at h
  ·exact g h
  cases h
 rw[if_neg C]at h;by_cases D:x.kind=8
 ·rw[if_pos D]at h;exact d (.inl rfl) h
 rw[if_neg D]at h;by_cases E:x.kind=9
 ·rw[if_pos E]at h;exact d (.inl rfl) h
 rw[if_neg E]at h;by_cases q:x.kind=10
 ·rw[if_pos q]at h;exact d (.inl rfl) h
 rw[if_neg q]at h;by_cases t:x.kind=11
 ·rw[if_pos t]at h;exact d (.inl rfl) h
 rw[if_neg t]at h;by_cases w:x.kind=24
 ·rw[if_pos w]at h;exact d (.inr Z) h
 rw[if_neg w]at h;split at h
 ·rename_i K G m;simp only[Except.ok.injEq,Prod.mk.injEq]at h;obtain⟨rfl,rfl,rfl,rfl⟩:=h;exact⟨wV m,.inl rfl⟩
 cases h
theorem rT {u:aI} {n:Int} {M:cr}:(dA u n M).objs=M.objs/\(dA u n M).said=M.said:=by unfold dA;split<;>exact⟨rfl,rfl⟩
theorem Aw {u:aI} {to:Int} {a:List Vl} {M M':cr} (h:iA u to a M=.ok M'):M'.objs=M.objs/\M'.said=M.said:=by
 unfold iA at h;split at h
 ·cases h
 simp only[Except.ok.injEq]at h;subst h;exact⟨rfl,rfl⟩
theorem EX {u:aI} {fs:List cJ} {f:cJ} {M M':cr} (h:vn u fs f M=.ok M'):(M'.objs.length=M.objs.length\/M'.objs.length=M.objs.length+1)/\(M'.said.length=M.said.length\/M'.said.length=M.said.length+1):=by
 have same:∀ {N:cr},N.objs=M.objs/\N.said=M.said->(N.objs.length=M.objs.length\/N.objs.length=M.objs.length+1)/\(N.said.length=M.said.length\/N.said.length=M.said.length+1):=λa=>by rw[a.1,a.2];simp
 unfold vn at h;simp only at h;split at h
 ·cases h
 split at h
 ·cases h
 split at h
 ·unfold iI at h;simp only[pP]at h;repeat' split at h
  all_goals first
   | (cases h;done)
   | (have b:=Aw h;exact same (N:=M') ⟨b.1,b.2⟩)
   | (simp only[Except.ok.injEq]at h;subst h;first|exact same ⟨rfl,rfl⟩|exact same rT)
 split at h
 ·cases h
 rename_i e g i d c;simp only[Except.ok.injEq]at h;subst h;exact CL c
def runM (u:aI):Nat->cr
 | 0=>lW u
 | n+1=>gG u (runM u n)
structure Nk (u:aI) (n:Nat) (M:cr):Prop where
 ok:kn u M
 link:jA u M.aq
 le:M.steps<=n
 eq:M.fin=0->M.steps=n
 said:(M.said.length:Int)<=M.steps
 objs:(M.objs.length:Int)<=7+M.steps
theorem Ax {u:aI} {M:cr}:(gG u M=M/\(M.fin≠0\/200<=M.steps\/200<=M.said.length\/207<=M.objs.length\/M.aq=[])) \/
  ((gG u M).steps=M.steps+1/\((gG u M).objs.length=M.objs.length\/(gG u M).objs.length=M.objs.length+1)/\((gG u M).said.length=M.said.length\/(gG u M).said.length=M.said.length+1)/\M.fin=0):=by
 by_cases a:M.fin≠0\/200<=M.steps\/200<=M.said.length\/207<=M.objs.length
 ·left
  refine⟨?_,O⟩;unfold gG;rw[if_pos a]
 rcases List.eq_nil_or_concat M.aq with d|⟨e,f,b⟩
 ·left
  refine⟨?_,by simp[d]⟩;unfold gG;rw[if_neg a,d];rfl
 right
 rw[List.concat_eq_append]at b;rw[BI b a];unfold mz;cases g:vn u e f M with
 | ok h =>
  have:=EX g;exact⟨rfl,this.1,this.2,O⟩
 | error k =>
  by_cases c:k=0
  ·simp[c];omega
  simp[c,rT];omega
theorem Nl {u:aI} (e:bS u):∀ n:Nat,n<=200->Nk u n (runM u n)
 | 0,_=>by
  obtain⟨c,d⟩:=J1 e;exact⟨c,d,by simp[runM,lW],by simp[runM,lW],by simp[runM,lW],by simp[runM,lW,fM]⟩
 | n+1,hn=>by
  have a:=Nl e n O;obtain⟨c,d⟩:=GV e a.ok a.link;have hle:=a.le;have o:=a.said;have m:=a.objs;show Nk u (n+1) (gG u (runM u n));rcases Ax (u:=u) (M:=runM u n)with ⟨g,b⟩|⟨p,q,s,h⟩
  ·rw[g];refine⟨a.ok,a.link,O,λf=>?_,o,m⟩;have i:=a.eq f;have t:=a.ok.steps;have j:(runM u n).aq≠[]:=by
    rcases a.ok.fin with c|c|c
    ·exact c.2.1
    ·omega
    omega
   rcases b with b|b|b|b|b
   ·exact absurd f b
   ·omega
   ·omega
   ·omega
   exact absurd b j
  have i:=a.eq h;exact⟨c,d,O,λ_=>O,O,O⟩
theorem CM {u:aI} {x:dc} {L:List Vl} {objs c:List Ob} {f g:cJ} {K p:List Int} {j:Bool} {C:List Ob->cJ->Prop} (h0:C objs f) (N:∀ i v,C objs {f with locals:=f.locals.set i v}) (s:∀ {f1 f2:cJ} {v:Vl} {o:List Ob},C objs f1->ey objs f1 v=.ok (o,f2)->C objs f2)
  (P:∀ {o:List Ob} {g:cJ},gr u x L objs f=.ok (o,g)->C o g) (h:lU u x L objs f K=.ok (c,g,p,j)):C c g:=by
 have d:∀ {f1:cJ} {v:Vl},C objs f1->fV objs f1 K v=.ok (c,g,p,j)->C c g:=by
  intro f1 v m h;obtain⟨o,M,b,e⟩:=nJ h;simp only[Prod.mk.injEq]at e;obtain⟨rfl,rfl,_⟩:=e;have:=s m b;rw[oQ b];exact this
 have a:∀ {J:List Int} {f1:cJ} {q:Bool},C objs f1->(Except.ok (objs,f1,J,q):JT)=.ok (c,g,p,j)->C c g:=by
  intro J f1 q m e;simp only[Except.ok.injEq,Prod.mk.injEq]at e;obtain⟨rfl,rfl,_⟩:=e;exact m
 unfold lU at h;simp only at h;by_cases t:x.kind=1
 ·rw[if_pos t]at h;exact d h0 h
 rw[if_neg t]at h;by_cases z:x.kind=2
 ·rw[if_pos z]at h;exact d h0 h
 rw[if_neg z]at h;by_cases B:x.kind=3
 ·rw[if_pos B]at h;exact d h0 h
 rw[if_neg B]at h;by_cases D:x.kind=4
 ·rw[if_pos D]at h;exact a (N _ _) h
 rw[if_neg D]at h;by_cases E:x.kind=5
 ·rw[if_pos E]at h;exact a h0 h
 rw[if_neg E]at h;by_cases F:x.kind=6
 ·rw[if_pos F]at h;split at h
  ·rename_i b;exact d (s h0 b) h
  cases h
 rw[if_neg F]at h;by_cases G:x.kind=7
 ·rw[if_pos G]at h;split at h
  ·exact d h0 h
  cases h
 rw[if_neg G]at h;by_cases H:x.kind=8
 ·rw[if_pos H]at h;exact a h0 h
 rw[if_neg H]at h;by_cases I:x.kind=9
 ·rw[if_pos I]at h;exact a h0 h
 rw[if_neg I]at h;by_cases w:x.kind=10
 ·rw[if_pos w]at h;exact a h0 h
 rw[if_neg w]at h;by_cases y:x.kind=11
 ·rw[if_pos y]at h;exact a h0 h
 rw[if_neg y]at h;by_cases A:x.kind=24
 ·rw[if_pos A]at h;exact a h0 h
 rw[if_neg A]at h;split at h
 ·rename_i Q M b;simp only[Except.ok.injEq,Prod.mk.injEq]at h;obtain⟨rfl,rfl,_⟩:=h;exact P b
 cases h
theorem tX {u:aI} {c n:Int}:∀ {l a:List cJ},mN u c n l=some a->∃ b f r k,l=b++f::r/\kP u c f.pc (bz u f.aG).catches=some k/\a = {f with pc:=k.to,stack:=[⟨true,n⟩]}::r
 | [],_,h=>by cases h
 | f::r,a,h=>by
  rw[mN]at h;split at h
  ·rename_i t i;simp only[v_]at h;exact⟨[],f,r,t,rfl,i,h.symm⟩
  obtain⟨b,g,j,k,rfl,d,e⟩:=tX h;exact⟨f::b,g,j,k,rfl,d,e⟩
theorem yS {u:aI} {n:Int} {M:cr} {fs:List cJ} {f:cJ} {l:List Vl}:dA u n {M with aq:=fs++[{f with stack:=l}]}=dA u n {M with aq:=fs++[f]}:=by
 rw[oK,oK]
def EY (M:cr):Prop:=∀ f,M.aq.head? = some f->f.aG=0
def MH (l b:List cJ):Prop:=∀ a,b.head? = some a->∃ f,l.head? = some f/\a.aG=f.aG
theorem MH.refl (l:List cJ):MH l l:=λf h=>⟨f,h,rfl⟩
theorem MH.nil (l:List cJ):MH l []:=λf h=>by cases h
theorem MH.pre {b d e:List cJ} {f g:cJ} (h:g.aG=f.aG):MH (b++f::d) (b++g::e):=by
 intro i a;cases b with
 | nil =>
  simp only[List.nil_append,List.head?_cons,v_]at a;subst a;exact⟨f,rfl,h⟩
 | cons c l =>
  simp only[List.cons_append,List.head?_cons,v_]at a;subst a;exact⟨c,rfl,rfl⟩
theorem vC {u:aI} {n:Int} {M:cr}:MH M.aq (dA u n M).aq:=by
 unfold dA;split
 ·rename_i l c;obtain⟨d,f,r,k,a,_,rfl⟩:=tX c;have b:M.aq=r.reverse++f::d.reverse:=by
   have:=congrArg List.reverse a;simpa using this
  show MH M.aq (List.reverse (_::r));rw[b,List.reverse_cons];exact MH.pre rfl
 exact MH.nil _
theorem Hr {u:aI} {x:dc} {p:List Vl} {objs e:List Ob} {f g:cJ} {j m:List Int} {c:Bool} (h:lU u x p objs f j=.ok (e,g,m,c)):g.aG=f.aG:=by
 have b:∀ {o i:List Ob} {f1 f2:cJ} {v:Vl},f1.aG=f.aG->ey o f1 v=.ok (i,f2)->f2.aG=f.aG:=λd h=>by
  unfold ey at h;split at h
  ·simp only[Except.ok.injEq,Prod.mk.injEq]at h;rw[<-h.2];exact d
  cases h
 refine CM (C:=λ_ g=>g.aG=f.aG) rfl (λ_ _=>rfl) (λh a=>b h a) (λa=>?_) h;unfold gr at a;simp only[uM]at a;repeat' split at a
 all_goals first
  | (cases a;done)
  | exact b rfl a
  | (simp only[Except.ok.injEq,Prod.mk.injEq]at a;rw[<-a.2])
theorem Kz {u:aI} {fs:List cJ} {f:cJ} {M M':cr} (h:vn u fs f M=.ok M'):MH (fs++[f]) M'.aq:=by
 unfold vn at h;simp only at h;split at h
 ·cases h
 split at h
 ·cases h
 rename_i m rest _;have c:MH (fs++[f]) (fs++[{f with stack:=rest}]):=MH.pre rfl;split at h
 ·unfold iI at h;simp only at h;have b:∀ {to:Int} {X Y:cr},X.aq=fs++[{f with stack:=rest}]->iA u to m X=.ok Y->MH (fs++[f]) Y.aq:=λd a=>by
   unfold iA at a;split at a
   ·cases a
   simp only[Except.ok.injEq]at a;rw[<-a];show MH _ (_++[_]);rw[d,List.append_assoc];exact MH.pre rfl
  split at h
  ·exact b rfl h
  split at h
  ·split at h
   ·cases h
   exact b rfl h
  split at h
  ·unfold pP at h;split at h
   ·simp only[Except.ok.injEq]at h;rw[<-h];exact MH.nil _
   rename_i g i;split at h
   ·simp only[Except.ok.injEq]at h;rw[<-h];obtain⟨o,rfl⟩:=List.getLast?_eq_some_iff.1 i;show MH _ ((o++[g]).dropLast++[_]);rw[List.dropLast_concat,List.append_assoc];exact MH.pre rfl
   cases h
  split at h
  ·split at h
   ·cases h
   simp only[Except.ok.injEq]at h;rw[<-h];rw[yS];exact vC (M:={M with aq:=fs++[f]})
  simp only[Except.ok.injEq]at h;rw[<-h];exact c
 split at h
 ·cases h
 rename_i q g s p j;simp only[Except.ok.injEq]at h;subst h;have e:=Hr j;exact MH.pre e
theorem EZ (u:aI) (M:cr):MH M.aq (gG u M).aq:=by
 unfold gG;split
 ·exact MH.refl _
 split
 ·exact MH.refl _
 rename_i f b;obtain⟨c,e⟩:=List.getLast?_eq_some_iff.1 b;split
 ·rename_i a h;show MH M.aq a.aq;have:=Kz h;rw[e,List.dropLast_concat]at this;rw[e];exact this
 split
 ·exact MH.refl _
 exact vC
theorem EY.mh {M:cr} {l:List cJ} (h:EY M) (k:MH M.aq l):∀ f,l.head? = some f->f.aG=0:=λf a=>by
 obtain⟨g,b,e⟩:=k f a;rw[e];exact h g b
theorem CN (u:aI):∀ n:Nat,EY (runM u n)
 | 0=>λf a=>by
  simp only[runM,lW,List.head?_cons,v_]at a;rw[<-a]
 | n+1=>(CN u n).mh (EZ u _)
def wW:cr:=⟨[],[],[],0,0,dy⟩
def E0 (u:aI) (a:Int):Prop:=bS u/\0<=a/\a<=200
def IU (u:aI) (a:Int) (R:cr):Prop:=(E0 u a->R=runM u a.toNat)/\(¬E0 u a->R=wW)
theorem Nm (u:aI) (a:Int):∃ R,IU u a R:=by
 by_cases h:E0 u a
 ·exact⟨runM u a.toNat,λ_=>rfl,λb=>absurd h b⟩
 exact⟨wW,λc=>absurd c h,λ_=>rfl⟩
theorem Ay (h:Heap):gZ h [.slice none 0 0,.slice none 0 0,.slice none 0 0,.int .i64 0,.int .i64 0,.bool false,.int .i64 0] wW [] :=
 ⟨_,_,_,[],[],[],rfl,⟨[],[],[],⟨Z,.inl ⟨rfl,rfl,rfl⟩⟩,.nil,rfl⟩,⟨[],[],[],⟨Z,.inl ⟨rfl,rfl,rfl⟩⟩,.nil,rfl⟩,⟨by simp[wW],.inl ⟨rfl,rfl,rfl⟩⟩,rfl⟩
theorem kn.small {u:aI} (c:bS u) {M:cr} (h:kn u M):Small M:=by
 refine⟨by have:=h.len;omega,by have:=h.nf;omega,by have:=h.mw;omega,λo e=>?_,λf d=>?_⟩
 ·rcases(h.objs o e).2 with ⟨_,b⟩|⟨_,b,g⟩
  ·omega
  have:=eL c.1 b;omega
 have a:=h.jX f d;have:=(c.bz a.1).1.2.2.2.2.1;have:=a.2.2.1;have:=a.2.2.2.1;omega
def Nn (h:Heap) (M:cr) (v:Value) (a:Heap):Prop:=h.le a/\∃ b B,v=.agg ⟨b⟩/\gZ a b M B/\Nd B/\∀ c∈B,h c=none
theorem vD {u:aI} {i:Nat} (h:(runM u i).fin≠0):∀ k,runM u (i+k)=runM u i
 | 0=>rfl
 | k+1=>by
  show gG u (runM u (i+k))=_;rw[vD h k];unfold gG;rw[if_pos (.inl h)]
theorem KA (M:List Value) (u:aI) (b:Int) (h:Heap) (K:dn h M u) (R:cr) (G:IU u b R):bq prog 18 [.agg ⟨M⟩,.int .i64 b] h (Nn h R):=by
 have A:=K;obtain⟨ab,P,ad,Y,rfl,hcs,lR,jq,hl2⟩:=K.form;have Gj:=vj _ u h A;have bad:¬E0 u b->Nn h R (.agg #[.slice none 0 0,.slice none 0 0,.slice none 0 0,.int .i64 0,.int .i64 0,.bool false,.int .i64 0]) h:=λy=>by
  rw[G.2 y];exact⟨z_ h,_,[],rfl,Ay h,λ_=>Z,Z⟩
 have Sv:=G.1;refine bE ax func18 Wt U rfl ?_;conv=>whnf
 refine au Gj ?_;conv=>whnf
 apply aX<;>intro c;all_goals conv=>whnf
 ·exact bad (λC=>c C.1)
 refine au (dW _ _ _ _) ?_;conv=>whnf
 apply aX<;>intro x;all_goals conv=>whnf
 ·exact bad (λC=>x C.2)
 have hP:E0 u b:=⟨c,x⟩
 have H:=Sv hP;refine aB (Av _ u h A c) (λae j m=>?_);refine m.2.elim λmc0 f=>f.elim λN f=>?_;have B:=f.1;subst B;refine f.2.1.sE.elim λYj a=>a.elim λT a=>a.elim λYk a=>a.elim λQ a=>a.elim λYl a=>a.elim λW a=>?_;subst a;conv=>whnf
 refine eF [1,2,4,5,6] [2,4,5] (λs:Nat × Heap × (Option Addr × Nat) × (Option Addr × Nat) × (Option Addr × Nat) × List Nat=>(s.1:Int)<=b/\h.le s.2.1/\gZ s.2.1 (sE s.2.2.1.1 s.2.2.1.2 s.2.2.2.1.1 s.2.2.2.1.2 s.2.2.2.2.1.1 s.2.2.2.2.1.2 (runM u s.1)) (runM u s.1) s.2.2.2.2.2/\Nd s.2.2.2.2.2/\∀ t∈s.2.2.2.2.2,h t=none) (λs=>b.toNat-s.1)
  (λs=>([.v (.int .i64 b),.l 2 0,.l 4 0,.l 5 0,.v (.int .i64 s.1)],
   [some [.slice ab u.ak.length P,.slice ad u.methods.length Y],some [.slice none 0 0,.slice none 0 0,.slice none 0 0,.int .i64 0,.int .i64 0,.bool false,.int .i64 0],some (sE s.2.2.1.1 s.2.2.1.2 s.2.2.2.1.1 s.2.2.2.1.2 s.2.2.2.2.1.1 s.2.2.2.2.1.2 (runM u s.1))],s.2.1))
  (0,j,(Yj,T),(Yk,Q),(Yl,W),N) ⟨by simp;omega,m.1,f.2.1,f.2.2⟩ rfl ?_
 rintro⟨i,h2,⟨po,co⟩,⟨pf,cf⟩,⟨ps,cs⟩,D⟩ ⟨hi,hle,own,nd,w⟩;simp only at hi hle own nd w ⊢;unfold sE aR;conv=>whnf
 apply aC<;>intro aa;all_goals conv=>whnf
 ·apply aC<;>intro q;all_goals conv=>whnf
  ·have d:=Nl c i O;have Ym:=own.read (d.ok.small c);have e:∃ p o,(runM u i).aq=p++[o]:=by
    rcases List.eq_nil_or_concat (runM u i).aq with v|⟨gs,gl,v⟩
    ·rcases d.ok.fin with j|j|j
     ·exact absurd v j.2.1
     ·omega
     omega
    exact⟨gs,gl,by simpa using v⟩
   refine e.elim λp e=>e.elim λo e=>?_;have Yn:mz u p o (runM u i)=runM u (i+1):=by
    refine(BI e ?_).symm;have:=d.eq q;have:=d.said;have:=d.objs;omega
   have J:=CJ _ _ u (runM u i) h2 p o Ym (A.le hle) c d.ok e q;rw[Yn]at J;refine aB J (λae F m=>?_);refine m.2.elim λNg g=>g.elim λE g=>?_;have B:=g.1;subst B;have L:gZ F Ng (runM u (i+1)) E:=g.2.1;refine L.sE.elim λYo a=>a.elim λV a=>a.elim λYp a=>a.elim λS a=>a.elim λYq a=>a.elim λX a=>?_;subst a;conv=>whnf
   refine av ?_;conv=>whnf
   exact cL (i+1,F,(Yo,V),(Yp,S),(Yq,X),E) ⟨by simp only;omega,y_ hle m.1,L,g.2.2.1,λt y=>eW hle (g.2.2.2 t y)⟩ (by simp only;omega) rfl
  have I:=vD q (b.toNat-i);have z:i+(b.toNat-i)=b.toNat:=by omega
  rw[z]at I;rw[H,I];exact⟨hle,_,D,rfl,own,nd,w⟩
 have z:i=b.toNat:=by omega
 subst z;rw[H];exact⟨hle,_,D,rfl,own,nd,w⟩
theorem gA {h:Heap} {b c:Nat} {l:List Int} {rest:List Value} {t:TypeId} {fz:Nat × Nat} (d:h b=some (.cells (l.map (Value.int .i64)++rest).toArray t fz)) (j:l.length<=140737488351232) (f:l.length<=c) (g:∀ t∈l,cy t):bP h (.slice (some ⟨b,0,none⟩) l.length c) l:=by
 refine⟨j,_,c,rfl,f,.inr ⟨b,0,rfl,λi x m=>?_⟩⟩;obtain⟨a,rfl⟩:=List.getElem?_eq_some_iff.1 m;refine⟨[.int .i64 l[i]],?_,rfl,g _ (x_ a)⟩;have e:rd h b (0+i*1)=some (.int .i64 l[i]):=aY d (by rw[List.getElem?_append_left (by simp;omega)];simp[a]);simp only[dP,e]
theorem cM {h:Heap} {p:Option Addr} {n c:Nat} {l:List Int} {B:List Nat} (i:dM h (.slice p n c) l B) (f:l.length<=140737488351232) (e:∀ t∈l,cy t):n=l.length/\bP h (.slice p l.length c) l:=by
 obtain⟨_,⟨a,g,_⟩|⟨j,m,rest,t,a,d,b,_,_⟩⟩:=i
 ·simp only[Z_]at a;obtain⟨rfl,rfl,rfl⟩:=a;have:l=[]:=by simpa using g
  subst this;exact⟨rfl,Z,none,0,rfl,Z,.inl rfl⟩
 simp only[Z_]at a;obtain⟨rfl,rfl,rfl⟩:=a;rw[dj]at b;refine⟨Z,gA b f (by simpa using d) e⟩
theorem dX (h:Heap) (p:Option Addr) (c:Nat):bP h (.slice p 0 c) []:=⟨Z,p,c,rfl,Z,.inl rfl⟩
theorem CO {g:TypeId} {h e:Heap} {b:Nat} {t:TypeId} {l:List Int} {m:Nat} {K:Value->Heap->Prop} (q:h.le e) (j:e b=some (.cells #[] t (0,0))) (i:h b=none) (u:m=l.length) (v:l.length<=1000000) (o:∀ t∈l,cy t)
  (p:∀ d c a B',h.le a->dM a (.slice d l.length c) l B'->bP a (.slice d l.length c) l->(∀ b∈B',h b=none)->K (.slice d l.length c) a):App 8 1 [.int .i64 0] g e (some ⟨b,0,none⟩) 0 0 m (l.map (Value.int .i64)) K:=by
 refine vt q j i (dj l).symm (by rw[u];simp) (by simpa using v) ?_;intro d c a B' w f x;have s:(l.map bD).length=l.length:=by simp
 rw[s]at f ⊢;exact p d c a B' w f (cM f O o).2 x
theorem uP {h a:Heap} (d:h.le a) {p:Option Addr} {n c:Nat} {l:List Int} {K:List Value->Prop} (e:bP h (.slice p n c) l) (b:K (l.map (Value.int .i64))):Lo a p (n*1) K:=mG (e.le d) b
theorem fy {l:List Int} {h:Heap} {v:Value} (e:bP h v l):∀ t∈l,cy t:=by
 obtain⟨_,p,j,rfl,_,c⟩:=e;rcases c with rfl|⟨g,m,_,f⟩
 ·intro t a;cases a
 intro t a;obtain⟨i,d,rfl⟩:=List.mem_iff_getElem.1 a;obtain⟨o,_,_,b⟩:=f i l[i] (by simp[d]);exact b
theorem bP.at {h:Heap} {p:Option Addr} {n c:Nat} {l:List Int} (g:bP h (.slice p n c) l) {i:Nat} (e:i < l.length):∃ b off,p=some ⟨b,off,none⟩/\rd h b (off+i*1)=some (.int .i64 l[i]):=by
 obtain⟨b,off,j,f,a,d,_⟩:=g.get e;subst d;exact⟨b,off,f,by simpa using aJ a (i:=0) rfl⟩
theorem bP.first {h:Heap} {p:Option Addr} {n c:Nat} {l:List Int} (g:bP h (.slice p n c) l) {m:Nat} (u:m<=l.length):bP h (.slice p m c) (l.take m):=by
 obtain⟨s,v,q,b,t,e⟩:=g;simp only[Z_]at b;obtain⟨rfl,rfl,rfl⟩:=b;have f:(l.take m).length=m:=by simp;omega
 refine⟨O,p,c,by rw[f],O,?_⟩;rcases e with rfl|⟨d,o,rfl,i⟩
 ·exact .inl Z
 refine .inr ⟨d,o,rfl,λj x a=>i j x ?_⟩;rw[List.getElem?_take]at a;split at a
 ·exact a
 cases a
def iR:cz:=⟨false,[],[]⟩
theorem ji (h:Heap):bq prog 117 [] h λv c=>h.le c/\∃ a b,v=.agg #[.bool false,.slice (some ⟨a,0,none⟩) 0 0,.slice (some ⟨b,0,none⟩) 0 0]:=by
 refine bE ax func117 PZ U rfl ?_;conv=>whnf
 refine cZ [] rfl (λa m p f d i=>?_);conv=>whnf
 refine cZ [] rfl (λb o q g e j=>?_);conv=>whnf
 exact⟨y_ d e,a,b,rfl⟩
structure oy (h h':Heap) (v1:Value) (l1:List Int) (B1:List Nat) (v2:Value) (l2:List Int) (B2:List Nat):Prop where
 le:h.le h'
 o1:dM h' v1 l1 B1
 o2:dM h' v2 l2 B2
 nd:Nd (B1++B2)
 fr:∀ b∈B1++B2,h b=none
theorem oy.start (h:Heap):oy h h (.slice none 0 0) [] [] (.slice none 0 0) [] []:=⟨z_ h,⟨Z,.inl ⟨rfl,rfl,rfl⟩⟩,⟨Z,.inl ⟨rfl,rfl,rfl⟩⟩,λ_=>Z,Z⟩
theorem oy.swap {h b:Heap} {e f:Value} {c d:List Int} {B1 a:List Nat} (s:oy h b e c B1 f d a):oy h b f d a e c B1:=⟨s.le,s.o2,s.o1,s.nd.perm λj=>by simp only[Y_];omega,λg i=>s.fr g (by simp at i ⊢;grind)⟩
theorem oy.E1 {h e:Heap} {j:Value} {i:List Int} {d:List Nat} {t:TypeId} {vs:List Value} {K:Nat->Heap->Prop} (s:oy h e (.slice none 0 0) [] [] j i d) (q:vs=[]) (o:∀ b c,oy h c (.slice (some ⟨b,0,none⟩) 0 0) [] [b] j i d->K b c):zB e vs t K:=by
 subst q;refine cZ [] rfl (λb c f v l m=>o b c ⟨y_ s.le l,dL m,s.o2.aK (cS.of_le l _),?_,λx a=>?_⟩)
 ·refine Nd.two (λu=>by simp only[X_,List.count_nil];split<;>omega) s.o2.nd (λx a p=>?_);rw[V_.1 p]at a;obtain⟨w,g⟩:=s.o2.in b a;rw[f]at g;cases g
 rcases u_.1 a with a|a
 ·rw[V_.1 a];exact eW s.le f
 exact s.fr x (by simp[a])
theorem oy.No {h c:Heap} {e:Value} {d:List Int} {B1:List Nat} {t:TypeId} {vs:List Value} {K:Nat->Heap->Prop} (s:oy h c e d B1 (.slice none 0 0) [] []) (g:vs=[]) (f:∀ b a,oy h a e d B1 (.slice (some ⟨b,0,none⟩) 0 0) [] [b]->K b a):zB c vs t K :=
 s.swap.E1 g (λb a i=>f b a i.swap)
theorem oy.yT {h t:Heap} {p:Option Addr} {c m:Nat} {l w:List Int} {B1 o:List Nat} {x:Value} {y:TypeId} {K:Value->Heap->Prop} (s:oy h t (.slice p 0 c) [] B1 x w o) (C:m=l.length) (v:l.length<=1000000)
  (z:∀ j g i B',oy h i (.slice j l.length g) l B' x w o->K (.slice j l.length g) i):App 8 1 [.int .i64 0] y t p 0 c m (l.map (Value.int .i64)) K:=by
 refine dh (h0:=h) (xs:=[]) (ys:=l.map bD) (B:=B1) s.o1 (λb a=>s.fr b (by simp[a])) s.le (dj l).symm (by rw[C];simp) (λL e=>by obtain⟨J,_,rfl⟩:=List.mem_map.1 e;rfl) (cR l) rfl (by simp at v ⊢;omega) (by simp at v ⊢;omega) ?_;intro I i B' D f E F G;rw[List.nil_append]at f;obtain⟨j,g,rfl,_⟩:=bY.form f;have A:(l.map bD).length=l.length:=by simp
 rw[A]at f ⊢;have u:∀ b∈o,b ∉ B1:=λb a q=>by
  have:=s.nd b;have:=W_.2 a;have:=W_.2 q;simp only[Y_]at *;omega
 refine z j g i B' ⟨D,f,s.o2.aK λb a H d=>by rw[F b (u b a) (by rw[d];simp)];exact d,Nd.two f.nd s.o2.nd (λb a q=>?_),λb a=>?_⟩
 ·rcases G b q with e|e
  ·exact u b a e
  obtain⟨H,d⟩:=s.o2.in b a;rw[e]at d;cases d
 rcases u_.1 a with a|a
 ·exact E b a
 exact s.fr b (by simp[a])
theorem oy.Az {h e:Heap} {p:Option Addr} {c m:Nat} {l f:List Int} {B1 i:List Nat} {g:Value} {j:TypeId} {K:Value->Heap->Prop} (s:oy h e g f B1 (.slice p 0 c) [] i) (q:m=l.length) (t:l.length<=1000000)
  (o:∀ d a b B',oy h b g f B1 (.slice d l.length a) l B'->K (.slice d l.length a) b):App 8 1 [.int .i64 0] j e p 0 c m (l.map (Value.int .i64)) K :=
 s.swap.yT q t (λd a b B' u=>o d a b B' u.swap)
theorem q9 (w:Bool) (lp p:Option Addr) (q o:Nat) (b a:List Int) (h:Heap) (A:bP h (.slice lp b.length q) b) (B:bP h (.slice p a.length o) a) (g:b.length<=1000000) (i:a.length<=1000000) :
  bq prog 139 [.agg #[.bool w,.slice lp b.length q,.slice p a.length o]] h λv z=>∃ t j u m B1 x,v=.agg #[.bool w,.slice t b.length j,.slice u a.length m]/\oy h z (.slice t b.length j) b B1 (.slice u a.length m) a x:=by
 have s:=oy.start h;refine bE ax func139 Qc U rfl ?_;conv=>whnf
 repeat' ((first|exact trivial|exact⟨_,_,_,_,_,_,rfl,s⟩|exact⟨_,_,_,_,_,_,rfl,s.swap⟩|apply T_|refine uP s.le A ?_|refine uP s.le B ?_|refine s.yT (l:=b) rfl g (λf e c d s=>?_)|refine s.Az (l:=b) rfl g (λf e c d s=>?_)|refine s.yT (l:=a) rfl i (λf e c d s=>?_)|refine s.Az (l:=a) rfl i (λf e c d s=>?_)|refine s.E1 rfl (λy c s=>?_)|refine s.No rfl (λy c s=>?_))<;>conv=>whnf)
def cU (cs:List dB):List Int->List Int->Bool
 | a::l,b::r=>dQ cs a b&&cU cs l r
 | _,_=>true
def oz (cs:List dB) (cA types:List Int):Bool:=decide (types.length<=cA.length)&&cU cs (cA.drop (cA.length-types.length)) types
def fe (cs:List dB) (s:cz) (types:List Int):Option cz:=if oz cs s.stack types=true then some {s with stack:=s.stack.take (s.stack.length-types.length)}else none
def eS (r:Option cz) (t:Int):Option cz:=match r with
 | none=>none
 | some s=>if t=0\/4<=s.stack.length then none else some {s with stack:=s.stack++[t]}
def qb (h:Heap) (v:Value) (r:Option cz):Prop:=match r with
 | none=>∃ e c f a d g b,v=.tuple #[.agg #[.bool e,.slice c f a,.slice d g b],.bool false]
 | some s=>∃ c a d b,v=.tuple #[.agg #[.bool s.told,.slice c s.locals.length a,.slice d s.stack.length b],.bool true]/\bP h (.slice c s.locals.length a) s.locals/\bP h (.slice d s.stack.length b) s.stack
theorem jK {cs:List dB} {l r:List Int} {i:Nat} (a:i < l.length) (b:i < r.length):cU cs (l.drop i) (r.drop i)=(dQ cs l[i] r[i]&&cU cs (l.drop (i+1)) (r.drop (i+1))):=by
 rw[List.drop_eq_getElem_cons a,List.drop_eq_getElem_cons b,cU]
theorem yU (p:Option Addr) (n c:Nat) (cs:List dB) (s:cz) (lp b tp:Option Addr) (e a y:Nat) (types:List Int) (h:Heap) (P:eP h (.slice p n c) cs) (ok:bX cs) (q:bP h (.slice lp s.locals.length e) s.locals) (g:bP h (.slice b s.stack.length a) s.stack) (E:bP h (.slice tp types.length y) types)
  (F:∀ t∈s.stack,t < 8+cs.length) (X:∀ t∈types,t < 8+cs.length) :
  bq prog 197 [.slice p n c,.agg #[.bool s.told,.slice lp s.locals.length e,.slice b s.stack.length a],.slice tp types.length y] h λv N=>N=h/\qb h v (fe cs s types):=by
 obtain⟨d,f,cA⟩:=s;simp only at q g F ⊢;have l1:=q.1;have l2:=g.1;have l3:=E.1;have z:cA.length<=a:=by
  obtain⟨_,_,A,z,_⟩:=g.len;simp only[Z_,true_and]at A;obtain⟨_,rfl⟩:=A;exact z
 have K:fe cs ⟨d,f,cA⟩ types=if oz cs cA types=true then some ⟨d,f,cA.take (cA.length-types.length)⟩else none:=rfl
 rw[K];have x:oz cs cA types=false->qb h (.tuple #[.agg #[.bool d,.slice lp f.length e,.slice b cA.length a],.bool false]) (if oz cs cA types=true then some ⟨d,f,cA.take (cA.length-types.length)⟩else none):=λY=>by
  rw[if_neg (by rw[Y];simp)];exact⟨d,_,_,_,_,_,_,rfl⟩
 refine bE ax func197 QX U rfl ?_;conv=>whnf
 refine av ?_;conv=>whnf
 apply aC<;>intro L;all_goals conv=>whnf
 ·exact⟨rfl,x (by simp[oz];omega)⟩
 obtain⟨m,w⟩:∃ m:Nat,m=cA.length-types.length:=⟨_,rfl⟩
 have V:(cA.length:Int)-types.length=m:=by omega
 rw[<-w];rw[V];rw[<-w]at x;have W:oz cs cA types=cU cs ((cA.drop m).drop 0) (types.drop 0):=by
  unfold oz;rw[<-w];simp;omega
 refine eF [0,2,4,6,8,9] [4,6] (λi:Nat=>i<=types.length/\oz cs cA types=cU cs ((cA.drop m).drop i) (types.drop i)) (λi=>types.length-i)
  (λi=>([.v (.slice p n c),.v (.slice tp types.length y),.l 4 0,.l 6 0,.v (.int .i64 m),.v (.int .i64 i)],[some [.bool d,.slice lp f.length e,.slice b cA.length a],some [.bool false,.slice none 0 0,.slice none 0 0]],h)) 0 ⟨O,W⟩ rfl ?_
 rintro i ⟨hi,j⟩;conv=>whnf
 apply aC<;>intro M;all_goals conv=>whnf
 ·have u:i < types.length:=by omega
  have B:m+i < cA.length:=by omega
  have f1:=g.at B;have f2:=E.at u;obtain⟨J,o1,q1,G⟩:=f1;obtain⟨b2,o2,q2,I⟩:=f2;have R:((m:Int)+i).toNat=m+i:=by omega
  have H:rd h J (o1+((m:Int)+i).toNat*1)=some (.int .i64 cA[m+i]):=by rw[R];exact G
  have T:=qS p n c cs cA[m+i] types[i] h P ok (F _ (x_ B)) (X _ (x_ u));have D:=jK (cs:=cs) (l:=cA.drop m) (r:=types) (i:=i) (by simp;omega) u;have Q:(cA.drop m)[i]'(by simp;omega)=cA[m+i]:=by simp
  rw[Q]at D;rw[D]at j;repeat' ((first|refine av ?_|refine ay ?_|refine aL q1 ?_|refine aL q2 ?_|refine ld H ?_|refine ld I ?_|refine aP T ?_)<;>conv=>whnf)
  apply dG<;>intro o;all_goals conv=>whnf
  ·exact⟨rfl,x (by rw[j,o];rfl)⟩
  refine av ?_;conv=>whnf
  refine cL (i+1) ⟨O,?_⟩ O rfl;rw[j,o];rfl
 have S:i=types.length:=by omega
 subst S;have Sw:oz cs cA types=true:=by rw[j,List.drop_length];unfold cU;split<;>simp_all
 refine ay ?_;conv=>whnf
 rw[if_pos Sw];have C:(cA.take m).length=m:=by simp;omega
 refine⟨rfl,lp,e,b,a,?_,q,?_⟩
 ·show _=Value.tuple #[.agg #[.bool d,.slice lp f.length e,.slice b (cA.take m).length a],.bool true];rw[C];rfl
 show bP h (.slice b (cA.take m).length a) (cA.take m);rw[C];exact g.first O
theorem vE (a:Bool) (z A:Option Addr) (w d y f:Nat) (b:Bool) (r:Option cz) (t:Int) (h:Heap) (m:qb h (.tuple #[.agg #[.bool a,.slice z w d,.slice A y f],.bool b]) r) (N:cy t) (M:∀ s,r=some s->s.stack.length<=1000) :
  bq prog 236 [.agg #[.bool a,.slice z w d,.slice A y f],.int .i64 t,.bool b] h λv i=>h.le i/\qb i v (eS r t):=by
 cases r with
 | none =>
  obtain⟨_,_,_,_,_,_,_,e⟩:=m;simp only[Value.tuple.injEq,Array.mk.injEq,List.cons.injEq,Value.agg.injEq,Value.bool.injEq,Z_,and_true]at e;obtain⟨_,rfl⟩:=e;refine bE ax func236 JO Ix rfl ?_;conv=>whnf
  exact⟨z_ h,_,_,_,_,_,_,_,rfl⟩
 | some s =>
  obtain⟨q1,d1,q2,d2,e,G,j⟩:=m;simp only[Value.tuple.injEq,Array.mk.injEq,List.cons.injEq,Value.agg.injEq,Value.bool.injEq,Z_,and_true]at e;obtain⟨⟨rfl,⟨rfl,rfl,rfl⟩,⟨rfl,rfl,rfl⟩⟩,rfl⟩:=e;have EB:=M s rfl;have o:=fy j;have e:eS (some s) t=if t=0\/4<=s.stack.length then none else some {s with stack:=s.stack++[t]}:=rfl
  rw[e];refine bE ax func236 JO Ix rfl ?_;conv=>whnf
  apply aC<;>intro g;all_goals conv=>whnf
  ·rw[if_pos (.inl g)];exact⟨z_ h,_,_,_,_,_,_,_,rfl⟩
  apply aC<;>intro E;all_goals conv=>whnf
  ·rw[if_pos (.inr O)];exact⟨z_ h,_,_,_,_,_,_,_,rfl⟩
  rw[if_neg O];refine cZ [] rfl (λW h3 I e3 u F=>?_);conv=>whnf
  refine uP u j ?_;conv=>whnf
  refine CO u F I rfl O o (λp4 X h4 C Q S r4 R=>?_);conv=>whnf
  have hlm:(s.stack.map bD).length=s.stack.length:=by simp
  refine dh (h0:=h) (xs:=s.stack.map bD) (ys:=[bD t]) (B:=C) S R Q rfl rfl (by simp[bD]) rfl rfl (by simp;omega) (by simp;omega) ?_;intro V H D p P k3 k4 k5;have q:dM H V (s.stack++[t]) D:=by unfold dM;rw[List.map_append];exact P
  have J:=q.form;obtain⟨p6,Y,rfl,_⟩:=J;have K:∀ x∈s.stack++[t],cy x:=λx c=>by
   simp only[u_,V_]at c;rcases c with c|rfl
   ·exact o x c
   exact N
  have L:((s.stack++[t]).map bD).length=(s.stack++[t]).length:=by simp
  have T:=(cM q (by simp;omega) K).2;rw[L];conv=>whnf
  exact⟨p,_,_,_,_,rfl,G.le p,T⟩
theorem CP (k:Int) (h:Heap):Pure prog 237 [.int .i64 k] h (.tuple #[.int .i64 (if k=0 then 3 else 4),.int .i64 (if k=0 then 1 else 8)]):=by
 refine gF ax func237 Rk U rfl ?_;conv=>whnf
 apply aC<;>intro g;all_goals conv=>whnf
 ·rw[if_pos g,if_pos g];exact⟨rfl,rfl⟩
 rw[if_neg g,if_neg g];exact⟨rfl,rfl⟩
def kr (cs:List dB) (i:dc) (s:cz):Option cz :=
 if i.kind=1 then eS (some s) 1
 else if i.kind=2 then eS (some s) 2
 else if i.kind=3 then eS (some s) (s.locals.getD i.a.toNat 0)
 else if i.kind=4 then (match s.stack.getLast? with
  | none=>none
  | some t=>some {s with locals:=s.locals.set i.a.toNat t,stack:=s.stack.dropLast})
 else if i.kind=5 then fe cs s [0]
 else if i.kind=6 then (match s.stack.getLast? with
  | none=>none
  | some t=>eS (some s) t)
 else if i.kind=7 then eS (fe cs s [1,1]) 1
 else if i.kind=8\/i.kind=9 then fe cs s [1,1]
 else if i.kind=10 then fe cs s [8]
 else if i.kind=24 then fe cs s [1]
 else if i.kind=23 then fe cs s [9]
 else some s
theorem qb.form {h:Heap} {v:Value} {r:Option cz} (m:qb h v r):∃ a e i c f j d b,v=.tuple #[.agg #[.bool a,.slice e i c,.slice f j d],.bool b]:=by
 cases r with
 | none=>obtain⟨a,e,i,c,f,j,d,g⟩:=m;exact⟨a,e,i,c,f,j,d,false,g⟩
 | some s=>obtain⟨e,c,f,d,g,_⟩:=m;exact⟨_,_,_,_,_,_,_,_,g⟩
theorem E2 {K:Value->Heap->Prop} {E:List PanicEntry->Heap->Prop} {p:Option Addr} {n c:Nat} {cs:List dB} {s:cz} {lp o tp:Option Addr} {q m u w:Nat} {types:List Int} {h:Heap} (A:eP h (.slice p n c) cs) (ok:bX cs) (x:bP h (.slice lp s.locals.length q) s.locals) (y:bP h (.slice o s.stack.length m) s.stack) (C:w=types.length) (D:bP h (.slice tp types.length u) types)
  (F:∀ t∈s.stack,t < 8+cs.length) (G:∀ t∈types,t < 8+cs.length) (z:∀ a i f d j g e b,qb h (.tuple #[.agg #[.bool a,.slice i f d,.slice j g e],.bool b]) (fe cs s types)->K (.tuple #[.agg #[.bool a,.slice i f d,.slice j g e],.bool b]) h) :
  Vc.Call prog 197 [.slice p n c,.agg #[.bool s.told,.slice lp s.locals.length q,.slice o s.stack.length m],.slice tp w u] h K E:=by
 subst C;refine aB (yU p n c cs s lp o tp q m u types h A ok x y D F G) (λI H B=>?_);obtain⟨rfl,v⟩:=B;obtain⟨a,i,f,d,j,g,e,b,rfl⟩:=v.form;exact z a i f d j g e b v
theorem lZ {K:Value->Heap->Prop} {E:List PanicEntry->Heap->Prop} {a:Bool} {g i:Option Addr} {e c f d:Nat} {b:Bool} {r:Option cz} {t:Int} {h:Heap} (u:qb h (.tuple #[.agg #[.bool a,.slice g e c,.slice i f d],.bool b]) r) (v:cy t) (m:∀ s,r=some s->s.stack.length<=1000)
  (o:∀ j a g e c i f d b,h.le j->qb j (.tuple #[.agg #[.bool a,.slice g e c,.slice i f d],.bool b]) (eS r t)->K (.tuple #[.agg #[.bool a,.slice g e c,.slice i f d],.bool b]) j) :
  Vc.Call prog 236 [.agg #[.bool a,.slice g e c,.slice i f d],.int .i64 t,.bool b] h K E:=by
 refine aB (vE a g i e c f d b r t h u v m) (λw j p=>?_);obtain⟨q,m⟩:=p;obtain⟨a,g,e,c,i,f,d,b,rfl⟩:=m.form;exact o j a g e c i f d b q m
theorem AA {K:Value->Heap->Prop} {E:List PanicEntry->Heap->Prop} {p:Option Addr} {n c:Nat} {cs:List dB} {s:cz} {lp o tp:Option Addr} {q m u w:Nat} {types:List Int} {h:Heap} (A:eP h (.slice p n c) cs) (ok:bX cs) (x:bP h (.slice lp s.locals.length q) s.locals) (y:bP h (.slice o s.stack.length m) s.stack) (C:w=types.length) (D:bP h (.slice tp types.length u) types)
  (F:∀ t∈s.stack,t < 8+cs.length) (G:∀ t∈types,t < 8+cs.length) (z:∀ a i f d j g e b,qb h (.tuple #[.agg #[.bool a,.slice i f d,.slice j g e],.bool b]) (fe cs s types)->K (.tuple #[.agg #[.bool a,.slice i f d,.slice j g e],.bool b]) h) :
  gD prog 197 [.slice p n c,.agg #[.bool s.told,.slice lp s.locals.length q,.slice o s.stack.length m],.slice tp w u] h K E:=by
 subst C;refine cP (yU p n c cs s lp o tp q m u types h A ok x y D F G) (λI H B=>?_);obtain⟨rfl,v⟩:=B;obtain⟨a,i,f,d,j,g,e,b,rfl⟩:=v.form;exact⟨z_ _,z a i f d j g e b v⟩
theorem qc {K:Value->Heap->Prop} {E:List PanicEntry->Heap->Prop} {a:Bool} {g i:Option Addr} {e c f d:Nat} {b:Bool} {r:Option cz} {t:Int} {h:Heap} (u:qb h (.tuple #[.agg #[.bool a,.slice g e c,.slice i f d],.bool b]) r) (v:cy t) (m:∀ s,r=some s->s.stack.length<=1000)
  (p:∀ j a g e c i f d b,h.le j->qb j (.tuple #[.agg #[.bool a,.slice g e c,.slice i f d],.bool b]) (eS r t)->K (.tuple #[.agg #[.bool a,.slice g e c,.slice i f d],.bool b]) j) :
  gD prog 236 [.agg #[.bool a,.slice g e c,.slice i f d],.int .i64 t,.bool b] h K E:=by
 refine cP (vE a g i e c f d b r t h u v m) (λw j q=>?_);obtain⟨o,m⟩:=q;obtain⟨a,g,e,c,i,f,d,b,rfl⟩:=m.form;exact⟨o,p j a g e c i f d b o m⟩
theorem E3 {cs:List dB} {s r:cz} {types:List Int} (h:fe cs s types=some r):r.stack.length<=s.stack.length/\r.locals=s.locals/\r.told=s.told:=by
 unfold fe at h;split at h
 ·simp only[v_]at h;subst h;simp<;>omega
 cases h
def jL (h:Heap) (s:cz) (lp b:Option Addr) (c a:Nat):Prop:=bP h (.slice lp s.locals.length c) s.locals/\bP h (.slice b s.stack.length a) s.stack
theorem jL.le {h a:Heap} {s:cz} {lp e:Option Addr} {f d:Nat} (c:h.le a) (b:jL h s lp e f d):jL a s lp e f d:=⟨b.1.le c,b.2.le c⟩
theorem jL.out {h:Heap} {s:cz} {lp b:Option Addr} {c a:Nat} (d:jL h s lp b c a):qb h (.tuple #[.agg #[.bool s.told,.slice lp s.locals.length c,.slice b s.stack.length a],.bool true]) (some s):=⟨lp,c,b,a,rfl,d.1,d.2⟩
theorem qd {h:Heap} {b:Nat} {types:List Int} {t:TypeId} (a:h b=some (.cells (types.map (Value.int .i64)).toArray t (0,0))) (e:types.length<=1000) (c:∀ x∈types,0<=x/\x<=1000):bP h (.slice (some ⟨b,0,none⟩) types.length types.length) types :=
 gA (rest:=[]) (by rw[List.append_nil];exact a) O (Nat.le_refl _) (λx d=>by have:=c x d;unfold cy;omega)
theorem fR {cs:List dB} {s:cz} {types:List Int} (b:s.stack.length<=1000):∀ r,fe cs s types=some r->r.stack.length<=1000:=λr a=>by have:=E3 a;omega
theorem AB (p:Option Addr) (n c:Nat) (cs:List dB) (i a b:Int) (s:cz) (lp K:Option Addr) (F E:Nat) (B1 T:List Nat) (h0 h:Heap) (hcs:eP h (.slice p n c) cs) (ok:bX cs) (P:oy h0 h (.slice lp s.locals.length F) s.locals B1 (.slice K s.stack.length E) s.stack T) (A:jL h s lp K F E)
  (hv:∀ t∈s.stack,t < 8+cs.length) (D8:i=3\/i=4->0<=a/\a < s.locals.length) (jq:s.locals.length<=1000) (N:s.stack.length<=1000) :
  bq prog 200 [.slice p n c,.agg #[.int .i64 i,.int .i64 a,.int .i64 b],.agg #[.bool s.told,.slice lp s.locals.length F,.slice K s.stack.length E]] h λv h'=>h0.le h'/\qb h' v (kr cs ⟨i,a,b⟩ s):=by
 have hle:=P.le;have G8:=ok.1;have i2:=fy A.2;have i1:=fy A.1;have CD:s.stack.length<=E:=by
  obtain⟨_,_,he,CD,_⟩:=A.2.len;simp only[Z_,true_and]at he;obtain⟨_,rfl⟩:=he;exact CD
 have G:∀(types:List Int),types.length<=1000->(∀ D∈types,0<=D/\D < 10)->∀(e:Heap) (Y:Nat) (ty:TypeId) (V:Value->Heap->Prop) (aa:List PanicEntry->Heap->Prop) (S:Nat),h.le e->e Y=some (.cells (types.map (Value.int .i64)).toArray ty (0,0))->S=types.length ->
   (∀ a y w q z x u b,qb e (.tuple #[.agg #[.bool a,.slice y w q,.slice z x u],.bool b]) (fe cs s types)->V (.tuple #[.agg #[.bool a,.slice y w q,.slice z x u],.bool b]) e) ->
   Vc.Call prog 197 [.slice p n c,.agg #[.bool s.told,.slice lp s.locals.length F,.slice K s.stack.length E],.slice (some ⟨Y,0,none⟩) S S] e V aa:=by
  intro types hl C e Y ty V aa S d j g hK;subst g;exact E2 (hcs.le d (λ_ _ C=>C.le d)) ok (A.1.le d) (A.2.le d) rfl (qd j hl (λD Sy=>by have:=C D Sy;omega)) hv (λD Sy=>by have:=C D Sy;omega) hK
 refine bE ax func200 QZ U rfl ?_;conv=>whnf
 by_cases k1:i=1
 ·subst k1;conv=>whnf
  refine lZ A.out (by unfold cy;omega) (λr B=>by simp only[v_]at B;subst B;exact N) (λe a y w q z x u b d f=>?_);conv=>whnf
  exact⟨y_ hle d,f⟩
 refine cu k1 ?_;conv=>whnf
 by_cases k2:i=2
 ·subst k2;conv=>whnf
  refine lZ A.out (by unfold cy;omega) (λr B=>by simp only[v_]at B;subst B;exact N) (λe a y w q z x u b d f=>?_);conv=>whnf
  exact⟨y_ hle d,f⟩
 refine cu k2 ?_;conv=>whnf
 by_cases k3:i=3
 ·subst k3;have ha:=D8 (.inl rfl);have M:a.toNat < s.locals.length:=by omega
  have f1:=A.1.at M;obtain⟨o,o1,q1,a1⟩:=f1;have Np:s.locals.getD a.toNat 0=s.locals[a.toNat]:=by simp[M]
  have IA:=i1 _ (x_ M);rw[<-Np]at a1 IA;conv=>whnf
  repeat' ((first|exact trivial|apply T_|refine ay ?_|refine aL q1 ?_|refine ld a1 ?_|refine qc A.out IA (λr B=>by simp only[v_]at B;subst B;exact N) (λe a y w q z x u b d f=>?_))<;>conv=>whnf)
  all_goals first|exact y_ hle d|exact f
 refine cu k3 ?_;conv=>whnf
 by_cases k4:i=4
 ·subst k4;have e4:kr cs ⟨4,a,b⟩ s=(match s.stack.getLast? with
   | none=>none
   | some t=>some {s with locals:=s.locals.set a.toNat t,stack:=s.stack.dropLast}):=rfl
  rw[e4];have ha:=D8 (.inr rfl);conv=>whnf
  rcases List.eq_nil_or_concat s.stack with g|⟨l,t,g⟩
  ·refine fD (by rw[g];rfl) ?_;conv=>whnf
   refine⟨hle,?_⟩;rw[g];exact⟨_,_,_,_,_,_,_,rfl⟩
  rw[List.concat_eq_append]at g;have Yr:s.stack.length=l.length+1:=by rw[g];simp
  have LD:l.length < s.stack.length:=by omega
  have f2:=A.2.at LD;obtain⟨X,o2,q2,L⟩:=f2;have LB:s.stack[l.length]=t:=by simp[g]
  rw[LB]at L;have R:((s.stack.length:Int)-1).toNat=l.length:=by omega
  have W:rd h X (o2+((s.stack.length:Int)-1).toNat*1)=some (.int .i64 t):=by rw[R];exact L
  have M:a.toNat < s.locals.length:=by omega
  have uO:s.locals=s.locals.take a.toNat++s.locals[a.toNat]::s.locals.drop (a.toNat+1):=by simp
  have Sz:bY 1 h (.slice lp s.locals.length F) ((s.locals.take a.toNat).map bD++bD s.locals[a.toNat]::(s.locals.drop (a.toNat+1)).map bD) B1:=by
   have:=P.o1;unfold dM at this;rw[show s.locals.map bD=(s.locals.take a.toNat).map bD++bD s.locals[a.toNat]::(s.locals.drop (a.toNat+1)).map bD by rw[<-List.map_cons,<-List.map_append,<-uO]]at this;exact this
  obtain⟨H,cl,pre,post,tl,hq,Ys,sI,_,hB,nV⟩:=Sz.at;simp only[Z_]at hq;obtain⟨rfl,_,rfl⟩:=hq;have yV:pre.length=a.toNat:=by rw[sI];simp;omega
  have Yt:H ∉ T:=λC=>by
   have:=P.nd H;have:=W_.2 C;simp only[hB,Y_,X_,List.count_nil,beq_self_eq_true,if_true]at *;omega
  have Ai:(s.stack.getLast? : Option Int)=some t:=by rw[g];simp
  have Yu:s.stack.dropLast=l:=by rw[g];simp
  refine bZ ?_;conv=>whnf
  repeat' ((first|exact trivial|apply T_|refine av ?_|refine ay ?_|refine aL q2 ?_|refine ptr ?_|refine ld W ?_)<;>conv=>whnf)
  all_goals
   refine Bv Ys (pre++bD t++post) (by simp[yV,bD]<;>omega) (mM (x':=bD t) (by show 0+a.toNat*1=pre.length;omega) rfl) (λQ e5 g5=>?_);conv=>whnf
   refine av ?_;conv=>whnf
   refine ay ?_;conv=>whnf
   have Nq:h0.le Q:=by
    rw[e5];exact Heap.aT hle (P.fr H (by rw[hB];simp))
   have o5:dM Q (.slice (some ⟨H,0,none⟩) s.locals.length F) (s.locals.set a.toNat t) B1:=by
    have:=nV Q (bD t) g5 rfl;unfold dM;rw[show(s.locals.set a.toNat t).map bD=(s.locals.take a.toNat).map bD++bD t::(s.locals.drop (a.toNat+1)).map bD by rw[List.set_eq_take_append_cons_drop,if_pos M,List.map_append,List.map_cons]];exact this
   have Ce:cy t:=i2 t (by rw[g];simp);have r5:=(cM o5 (by simp;omega) (λD C=>by
    rcases List.mem_or_eq_of_mem_set C with C|rfl
    ·exact i1 D C
    exact Ce)).2
   have o6:dM Q (.slice K s.stack.length E) s.stack T:=P.o2.aK λb hb ab ho=>by
    have:b≠H:=by rintro rfl;exact Yt hb
    rw[e5];simp only[Heap.set,this,if_false];exact ho
   have r6:=(cM o6 O i2).2.first (m:=l.length) O;have SA:s.stack.take l.length=l:=by rw[g];simp
   rw[SA]at r6;refine⟨Nq,?_⟩;rw[Ai,Yu];have IM:(s.locals.set a.toNat t).length=s.locals.length:=by simp
   refine⟨some ⟨H,0,none⟩,F,K,E,?_,r5,r6⟩;rw[IM,R]
 refine cu k4 ?_;conv=>whnf
 by_cases k5:i=5
 ·subst k5;conv=>whnf
  refine cZ [.int .i64 0] rfl (λo e J I d j=>?_);conv=>whnf
  refine G [0] Z Z e o _ _ _ 1 d j rfl (λa y w q z x u b f=>?_);conv=>whnf
  exact⟨y_ hle d,f⟩
 refine cu k5 ?_;conv=>whnf
 by_cases k6:i=6
 ·subst k6;have e4:kr cs ⟨6,a,b⟩ s=(match s.stack.getLast? with
   | none=>none
   | some t=>eS (some s) t):=rfl
  rw[e4];conv=>whnf
  rcases List.eq_nil_or_concat s.stack with g|⟨l,t,g⟩
  ·refine fD (by rw[g];rfl) ?_;conv=>whnf
   refine⟨hle,?_⟩;rw[g];exact⟨_,_,_,_,_,_,_,rfl⟩
  rw[List.concat_eq_append]at g;have Yr:s.stack.length=l.length+1:=by rw[g];simp
  have LD:l.length < s.stack.length:=by omega
  have f2:=A.2.at LD;obtain⟨X,o2,q2,L⟩:=f2;have LB:s.stack[l.length]=t:=by simp[g]
  rw[LB]at L;have R:((s.stack.length:Int)-1).toNat=l.length:=by omega
  have W:rd h X (o2+((s.stack.length:Int)-1).toNat*1)=some (.int .i64 t):=by rw[R];exact L
  have Ai:(s.stack.getLast? : Option Int)=some t:=by rw[g];simp
  have Ce:cy t:=i2 t (by rw[g];simp);rw[Ai];refine bZ ?_;conv=>whnf
  repeat' ((first|exact trivial|apply T_|refine av ?_|refine ay ?_|refine aL q2 ?_|refine ld W ?_|refine qc A.out Ce (λr B=>by simp only[v_]at B;subst B;exact N) (λe a y w q z x u b d f=>?_))<;>conv=>whnf)
  all_goals first|exact y_ hle d|exact f
 refine cu k6 ?_;conv=>whnf
 by_cases k7:i=7
 ·subst k7;conv=>whnf
  refine cZ [.int .i64 1,.int .i64 1] rfl (λo e J I d j=>?_);conv=>whnf
  refine G [1,1] Z Z e o _ _ _ 2 d j rfl (λa y w q z x u b f=>?_);conv=>whnf
  refine lZ f (by unfold cy;omega) (fR N) (λh2 a y w q z x u b l2 f=>?_);conv=>whnf
  exact⟨y_ hle (y_ d l2),f⟩
 refine cu k7 ?_;conv=>whnf
 by_cases k8:i=8
 ·subst k8;conv=>whnf
  refine cZ [.int .i64 1,.int .i64 1] rfl (λo e J I d j=>?_);conv=>whnf
  refine G [1,1] Z Z e o _ _ _ 2 d j rfl (λa y w q z x u b f=>?_);conv=>whnf
  exact⟨y_ hle d,f⟩
 refine cu k8 ?_;conv=>whnf
 by_cases k9:i=9
 ·subst k9;conv=>whnf
  refine cZ [.int .i64 1,.int .i64 1] rfl (λo e J I d j=>?_);conv=>whnf
  refine G [1,1] Z Z e o _ _ _ 2 d j rfl (λa y w q z x u b f=>?_);conv=>whnf
  exact⟨y_ hle d,f⟩
 refine cu k9 ?_;conv=>whnf
 by_cases SB:i=10
 ·subst SB;conv=>whnf
  refine cZ [.int .i64 8] rfl (λo e J I d j=>?_);conv=>whnf
  refine G [8] Z Z e o _ _ _ 1 d j rfl (λa y w q z x u b f=>?_);conv=>whnf
  exact⟨y_ hle d,f⟩
 refine cu SB ?_;conv=>whnf
 by_cases SC:i=24
 ·subst SC;conv=>whnf
  refine cZ [.int .i64 1] rfl (λo e J I d j=>?_);conv=>whnf
  refine G [1] Z Z e o _ _ _ 1 d j rfl (λa y w q z x u b f=>?_);conv=>whnf
  exact⟨y_ hle d,f⟩
 refine cu SC ?_;conv=>whnf
 by_cases IJ:i=23
 ·subst IJ;conv=>whnf
  refine cZ [.int .i64 9] rfl (λo e J I d j=>?_);conv=>whnf
  refine G [9] Z Z e o _ _ _ 1 d j rfl (λa y w q z x u b f=>?_);conv=>whnf
  exact⟨y_ hle d,f⟩
 refine cu IJ ?_;conv=>whnf
 have e9:kr cs ⟨i,a,b⟩ s=some s:=by simp[kr,k1,k2,k3,k4,k5,k6,k7,k8,k9,SB,IJ,SC]
 rw[e9];exact⟨hle,A.out⟩
theorem eM {cs:List dB} (ok:bX cs):∀(k:Nat) {c:Int},c.toNat < k->c < cs.length->fJ cs.length (bV cs c)
 | 0,c,h,_=>by omega
 | k+1,c,h,hl=>by
  by_cases e:c<=0
  ·rw[ez e];intro t b;cases b
  have d:c.toNat < cs.length:=by omega
  have f:=ok.2.2 c.toNat d;have g:=ok.bJ (a:=c) O hl;rw[jf ok O hl];intro t b;rcases u_.1 b with b|b
  ·exact eM ok k (c:=bB cs c) O O t b
  have:fZ cs c=cs[c.toNat].fields:=by simp[fZ,d]
  rw[this]at b;exact f.1 t b
theorem dS {n t:Int} (h:bL n t):0 < t/\(t < 8\/t < 8+n):=by unfold bL at h;omega
theorem tY {K:Value->Heap->Prop} {E:List PanicEntry->Heap->Prop} {p:Option Addr} {n c:Nat} {cs:List dB} {x:Int} {h:Heap} (j:eP h (.slice p n c) cs) (ok:bX cs) (d:0<=x/\x < cs.length)
  (i:∀ a e b,h.le a->bP a (.slice e (bV cs x).length b) (bV cs x)->K (.slice e (bV cs x).length b) a):gD prog 82 [.slice p n c,.int .i64 x] h K E :=
 cP (jt (x.toNat+1) p n c cs x h j ok d.1 d.2 O) (λv a m=>by
  obtain⟨g,B,own,_⟩:=m;obtain⟨e,b,rfl,_⟩:=own.form;have s:=eL ok d.2;have o:∀ t∈bV cs x,cy t:=λt q=>by
   have:=dS (eM ok (x.toNat+1) O d.2 t q);have:=ok.2.1;unfold cy;omega
  have f:=cM own O o;rw[f.1];exact⟨g,i a e b g f.2⟩)
def fS (a:Int):Int:=if a=0 then 3 else 4
def bW (a:Int):Int:=if a=0 then 1 else 8
def oR (cs:List dB) (i:dc) (s:cz):Option cz :=
 if i.kind=12 then eS (some s) (8+i.a)
 else if i.kind=13 then eS (fe cs s [1]) (fS i.a)
 else if i.kind=14 then eS (match fe cs s [3]with
  | some r=>some r
  | none=>fe cs s [4]) 1
 else if i.kind=15 then eS (fe cs s [fS i.a,1]) (bW i.a)
 else if i.kind=16 then fe cs s [fS i.a,1,bW i.a]
 else if i.kind=17 then eS (fe cs s [8+i.a]) ((bV cs i.a).getD i.b.toNat 0)
 else if i.kind=18 then fe cs s [8+i.a,(bV cs i.a).getD i.b.toNat 0]
 else eS (fe cs s [8]) (8+i.a)
theorem AD (p:Option Addr) (n c:Nat) (cs:List dB) (w a b:Int) (s:cz) (lp kp:Option Addr) (lc kc:Nat) (h:Heap) (hcs:eP h (.slice p n c) cs) (ok:bX cs) (Y:jL h s lp kp lc kc) (hv:∀ t∈s.stack,t < 8+cs.length) (S:s.stack.length<=1000)
  (W:12<=w/\w<=19) (ha:0<=a/\a<=4) (hc:w=12\/w=17\/w=18\/w=19->a < cs.length) (hb:w=17\/w=18->0<=b/\b < (bV cs a).length) :
  bq prog 199 [.slice p n c,.agg #[.int .i64 w,.int .i64 a,.int .i64 b],.agg #[.bool s.told,.slice lp s.locals.length lc,.slice kp s.stack.length kc]] h λv h'=>h.le h'/\qb h' v (oR cs ⟨w,a,b⟩ s):=by
 have G8:=ok.1;have sH:=ok.2.1;have Nr:∀ r,some s=some r->r.stack.length<=1000:=λr hr=>by simp only[v_]at hr;subst hr;exact S
 have J3:fS a=3\/fS a=4:=by unfold fS;split<;>simp
 have Al:bW a=1\/bW a=8:=by unfold bW;split<;>simp
 have T:∀ {t:Int},0<=t->t<=1000->cy t:=λh0 f=>by unfold cy;omega
 have Hs:w=17\/w=18->0<=(bV cs a).getD b.toNat 0/\(bV cs a).getD b.toNat 0 < 8+cs.length/\(bV cs a).getD b.toNat 0<=100:=λW=>by
  have Io:=hb W;have N:b.toNat < (bV cs a).length:=by omega
  have F:(bV cs a).getD b.toNat 0=(bV cs a)[b.toNat]:=by simp[N]
  have:=dS (eM ok (a.toNat+1) O (hc O) _ (x_ N));rw[F];have hlt:(bV cs a)[b.toNat] < 8+cs.length:=by omega
  omega
 have V:∀(types:List Int),types.length<=1000->(∀ y∈types,0<=y/\y < 8+cs.length/\y<=100)->∀(f:Heap) (Q:Nat) (ty:TypeId) (K:Value->Heap->Prop) (X:List PanicEntry->Heap->Prop) (M:Nat),h.le f->f Q=some (.cells (types.map (Value.int .i64)).toArray ty (0,0))->M=types.length ->
   (∀ a q m i u o j b,qb f (.tuple #[.agg #[.bool a,.slice q m i,.slice u o j],.bool b]) (fe cs s types)->K (.tuple #[.agg #[.bool a,.slice q m i,.slice u o j],.bool b]) f) ->
   Vc.Call prog 197 [.slice p n c,.agg #[.bool s.told,.slice lp s.locals.length lc,.slice kp s.stack.length kc],.slice (some ⟨Q,0,none⟩) M M] f K X:=by
  intro types hl P f Q ty K X M e z hn hK;subst hn;exact E2 (hcs.le e (λ_ _ P=>P.le e)) ok (Y.1.le e) (Y.2.le e) rfl (qd z hl (λy H=>by have:=P y H;omega)) hv (λy H=>by have:=P y H;omega) hK
 have Ht:=CP a h;have R:(if a=0 then (3:Int)else 4)=fS a:=rfl;have e2:(if a=0 then (1:Int)else 8)=bW a:=rfl;rw[R,e2]at Ht;generalize wX:fS a=OX at Ht J3;generalize het:bW a=U4 at Ht Al;refine bE ax func199 QY U rfl ?_;conv=>whnf
 refine au Ht ?_;conv=>whnf
 refine av ?_;conv=>whnf
 by_cases U5:w=12
 ·subst U5;conv=>whnf
  refine lZ Y.out (T O O) Nr (λf a q m i u o j b e d=>?_);conv=>whnf
  exact⟨e,d⟩
 refine cu U5 ?_;conv=>whnf
 by_cases U6:w=13
 ·subst U6;conv=>whnf
  refine cZ [.int .i64 1] rfl (λA f vr R e z=>?_);conv=>whnf
  refine V [1] Z (by simp;omega) f A _ _ _ 1 e z rfl (λa q m i u o j b d=>?_);conv=>whnf
  refine lZ d (T O O) (fR S) (λh2 a q m i u o j b L d=>?_);conv=>whnf
  refine⟨y_ e L,?_⟩;rw[<-wX]at d;exact d
 refine cu U6 ?_;conv=>whnf
 by_cases KB:w=14
 ·subst KB;conv=>whnf
  refine cZ [.int .i64 3] rfl (λA f vr R e z=>?_);conv=>whnf
  refine V [3] Z (by simp;omega) f A _ _ _ 1 e z rfl (λD q m i u o j G d=>?_);have et:oR cs ⟨14,a,b⟩ s=eS (match fe cs s [3]with
   | some r=>some r
   | none=>fe cs s [4]) 1:=rfl
  rw[et];cases SD:fe cs s [3]with
  | some r =>
   rw[SD]at d;have sG:G=true:=by obtain⟨_,_,_,_,F,_⟩:=d;simp only[Value.tuple.injEq,Array.mk.injEq,List.cons.injEq,Value.bool.injEq,and_true]at F;exact F.2
   subst sG;have U7:=fR S r SD;conv=>whnf
   refine lZ d (T O O) (λr' JC=>by simp only[v_]at JC;subst JC;exact U7) (λh2 a q m i u o j b L d=>?_);conv=>whnf
   exact⟨y_ e L,d⟩
  | none =>
   rw[SD]at d;have sG:G=false:=by obtain⟨_,_,_,_,_,_,_,F⟩:=d;simp only[Value.tuple.injEq,Array.mk.injEq,List.cons.injEq,Value.bool.injEq,and_true]at F;exact F.2
   subst sG;conv=>whnf
   refine cZ [.int .i64 4] rfl (λb3 g uN e3 I g3=>?_);conv=>whnf
   refine V [4] Z (by simp;omega) g b3 _ _ _ 1 (y_ e I) g3 rfl (λD q m i u o j G d=>?_);conv=>whnf
   refine lZ d (T O O) (fR S) (λh2 a q m i u o j b L d=>?_);conv=>whnf
   exact⟨y_ e (y_ I L),d⟩
 refine cu KB ?_;conv=>whnf
 by_cases U8:w=15
 ·subst U8;conv=>whnf
  refine cZ [.int .i64 OX,.int .i64 1] rfl (λA f vr R e z=>?_);conv=>whnf
  refine V [OX,1] Z (by simp;omega) f A _ _ _ 2 e z rfl (λD q m i u o j G d=>?_);conv=>whnf
  refine lZ d (T O O) (fR S) (λh2 D q m i u o j G L d=>?_);conv=>whnf
  refine⟨y_ e L,?_⟩;rw[<-wX,<-het]at d;exact d
 refine cu U8 ?_;conv=>whnf
 by_cases U9:w=16
 ·subst U9;conv=>whnf
  refine cZ [.int .i64 OX,.int .i64 1,.int .i64 U4] rfl (λA f vr R e z=>?_);conv=>whnf
  refine V [OX,1,U4] Z (by simp;omega) f A _ _ _ 3 e z rfl (λD q m i u o j G d=>?_);conv=>whnf
  refine⟨e,?_⟩;rw[<-wX,<-het]at d;exact d
 refine cu U9 ?_;conv=>whnf
 by_cases Va:w=17
 ·subst Va;have hf:=Hs (.inl rfl);have OY:=hc Z;have MQ:=hb (.inl rfl);have N:b.toNat < (bV cs a).length:=by omega
  have Np:(bV cs a).getD b.toNat 0=(bV cs a)[b.toNat]:=by simp[N]
  conv=>whnf
  refine cZ [.int .i64 (8+a)] rfl (λA f vr R e z=>?_);conv=>whnf
  refine V [8+a] Z (by simp;omega) f A _ _ _ 1 e z rfl (λD q m i u o j G d=>?_);have Ao:=hcs.le e (λ_ _ P=>P.le e);have key:∀(g:Heap) (x:Option Addr) (E:Nat),bP g (.slice x (bV cs a).length E) (bV cs a)->∃ B C,x=some ⟨B,C,none⟩/\rd g B (C+b.toNat*1)=some (.int .i64 ((bV cs a).getD b.toNat 0)):=λg x E J=>by
   rw[Np];exact J.at N
  have Yv:∀ g,f.le g->qb g (.tuple #[.agg #[.bool D,.slice q m i,.slice u o j],.bool G]) (fe cs s [8+a]):=λg I=>by
   cases hp:fe cs s [8+a]with
   | none=>rw[hp]at d;exact d
   | some r =>
    rw[hp]at d;obtain⟨q1,d1,q2,d2,F,i1,i2⟩:=d;exact⟨q1,d1,q2,d2,F,i1.le I,i2.le I⟩
  have SE:∀(g:Heap) (x:Option Addr) (E:Nat),bP g (.slice x (bV cs a).length E) (bV cs a)->∀ K:Nat->Nat->Prop,(∀ B C,rd g B (C+b.toNat*1)=some (.int .i64 ((bV cs a).getD b.toNat 0))->K B C)->Ptr x K:=λg x E J K W=>by
   obtain⟨B,C,F,r⟩:=key g x E J;exact aL F (W B C r)
  conv=>whnf
  repeat' ((first|exact trivial|apply T_|refine tY Ao ok ⟨ha.1,OY⟩ (λg x E I J=>?_)|refine ay ?_|refine SE g x E J _ (λB C rq=>?_)|refine ld rq ?_|refine qc (Yv g I) (T O O) (fR S) (λh4 D q m i u o j G l4 d=>?_))<;>conv=>whnf)
  all_goals first|exact y_ e (y_ I l4)|exact d
 refine cu Va ?_;conv=>whnf
 by_cases Vb:w=18
 ·subst Vb;have hf:=Hs (.inr rfl);have OY:=hc Z;have MQ:=hb (.inr rfl);have N:b.toNat < (bV cs a).length:=by omega
  have Np:(bV cs a).getD b.toNat 0=(bV cs a)[b.toNat]:=by simp[N]
  have SE:∀(g:Heap) (x:Option Addr) (E:Nat),bP g (.slice x (bV cs a).length E) (bV cs a)->∀ K:Nat->Nat->Prop,(∀ B C,rd g B (C+b.toNat*1)=some (.int .i64 ((bV cs a).getD b.toNat 0))->K B C)->Ptr x K:=λg x E J K W=>by
   obtain⟨B,C,F,r⟩:=J.at N;exact aL F (W B C (by rw[Np];exact r))
  have two:∀ y∈[8+a,(bV cs a).getD b.toNat 0],0<=y/\y < 8+cs.length/\y<=100:=λy H=>by
   rcases List.mem_cons.1 H with rfl|H
   ·omega
   rw[V_.1 H];exact hf
  have SF:∀(f:Heap) (Q:Nat) (ty:TypeId) (K:Value->Heap->Prop) (X:List PanicEntry->Heap->Prop) (M:Nat),h.le f->f Q=some (.cells ([8+a,(bV cs a).getD b.toNat 0].map (Value.int .i64)).toArray ty (0,0))->M=2 ->
    (∀ D q m i u o j A,qb f (.tuple #[.agg #[.bool D,.slice q m i,.slice u o j],.bool A]) (fe cs s [8+a,(bV cs a).getD b.toNat 0])->K (.tuple #[.agg #[.bool D,.slice q m i,.slice u o j],.bool A]) f) ->
    gD prog 197 [.slice p n c,.agg #[.bool s.told,.slice lp s.locals.length lc,.slice kp s.stack.length kc],.slice (some ⟨Q,0,none⟩) M M] f K X:=by
   intro f Q ty K X M e z hn hK;subst hn;exact AA (types:=[8+a,(bV cs a).getD b.toNat 0]) (hcs.le e (λ_ _ P=>P.le e)) ok (Y.1.le e) (Y.2.le e) rfl (qd z Z (λy H=>by have:=two y H;omega)) hv (λy H=>by have:=two y H;omega) hK
  conv=>whnf
  repeat' ((first|exact trivial|apply T_|refine tY hcs ok ⟨ha.1,OY⟩ (λg x E I J=>?_)|refine ay ?_|refine SE g x E J _ (λB C rq=>?_)|refine ld rq ?_|refine cZ [.int .i64 (8+a),.int .i64 ((bV cs a).getD b.toNat 0)] rfl (λb5 h5 wB e5 l5 g5=>?_)|refine SF h5 b5 _ _ _ _ (y_ I l5) g5 rfl (λD q m i u o j G d=>?_))<;>conv=>whnf)
  all_goals first|exact y_ I l5|exact d
 refine cu Vb ?_;conv=>whnf
 have Yw:w=19:=by omega
 subst Yw;refine cZ [.int .i64 8] rfl (λA f vr R e z=>?_);conv=>whnf
 refine V [8] Z (by simp;omega) f A _ _ _ 1 e z rfl (λD q m i u o j G d=>?_);conv=>whnf
 refine lZ d (T O O) (fR S) (λh2 D q m i u o j G L d=>?_);conv=>whnf
 exact⟨y_ e L,d⟩
theorem gj {o:TypeId} {h g:Heap} {p:Option Addr} {n c m:Nat} {l k:List Int} {B:List Nat} {K:Value->Heap->Prop} (y:dM g (.slice p n c) l B) (q:∀ b∈B,h b=none) (v:h.le g) (x:m=k.length) (F:l.length+k.length<=1000000) (s:∀ t∈l++k,cy t)
  (u:∀ e d a B',h.le a->dM a (.slice e (l.length+k.length) d) (l++k) B'->bP a (.slice e (l++k).length d) (l++k)->(∀ b∈B',h b=none)->K (.slice e (l++k).length d) a):App 8 1 [.int .i64 0] o g p n c m (k.map (Value.int .i64)) K:=by
 refine dh (h0:=h) (xs:=l.map bD) (ys:=k.map bD) y q v (dj k).symm (by rw[x];simp) (λJ z=>by obtain⟨I,_,rfl⟩:=List.mem_map.1 z;rfl) (cR k) rfl (by simp;omega) (by simp;omega) ?_;intro E a i A C D G H;have f:dM a E (l++k) i:=by unfold dM;rw[List.map_append];exact C
 obtain⟨e,d,rfl,_⟩:=bY.form f;have w:((l++k).map bD).length=(l++k).length:=by simp
 rw[w]at f ⊢;have j:(l++k).length=l.length+k.length:=by simp
 exact u e d a i A (by rw[<-j];exact f) (cM f (by rw[j];omega) s).2 D
def qe (u:aI) (i:dc) (s:cz):Option cz :=
 let k:=if i.kind=21 then find u i.a i.b else i.a
 if k < 0 then none else eS (fe u.ak s ((if i.kind=21 then [8+i.a]else [])++(bz u k).args)) (bz u k).out
def AE (u:aI):Prop:=bX u.ak/\∀ m∈u.methods,m.args.length<=3/\fJ u.ak.length m.args/\bL u.ak.length m.out
theorem AE.bz {u:aI} (a:AE u) {k:Int} (h:0<=k/\k < u.methods.length):(bz u k).args.length<=3/\fJ u.ak.length (bz u k).args/\bL u.ak.length (bz u k).out:=a.2 _ (nH h)
theorem CQ (us:List Value) (u:aI) (q a b:Int) (s:cz) (lp kp:Option Addr) (lc kc:Nat) (h:Heap) (hu:dn h us u) (Q:AE u) (G:jL h s lp kp lc kc) (hv:∀ t∈s.stack,t < 8+(u.ak.length:Int)) (hl2:s.stack.length<=1000)
  (hk:q=20\/q=21) (Yx:q=20->0<=a/\a < u.methods.length) (Yy:q=21->0<=a/\a < u.ak.length) :
  bq prog 198 [.agg ⟨us⟩,.agg #[.int .i64 q,.int .i64 a,.int .i64 b],.agg #[.bool s.told,.slice lp s.locals.length lc,.slice kp s.stack.length kc]] h λv h'=>h.le h'/\qb h' v (qe u ⟨q,a,b⟩ s):=by
 have tH:=hu;obtain⟨ad,cc,aa,ab,rfl,hcs,lR,jq,SG⟩:=hu.form;have ok:=Q.1;have sH:=ok.2.1;have args:∀(e:Heap) (k:Int),h.le e->0<=k->k < u.methods.length->∃ j o K F,aa=some ⟨j,o,none⟩/\rd e j (o+k.toNat*8+2)=some (.slice K (bz u k).args.length F)/\rd e j (o+k.toNat*8+3)=some (.int .i64 (bz u k).out)/\bP e (.slice K (bz u k).args.length F) (bz u k).args:=by
  intro e k d L0 IV;have hi:k.toNat < u.methods.length:=by omega
  obtain⟨j,o,ms,Cl,e1,e2⟩:=lR.get hi;have R:bz u k=u.methods[k.toNat]:=gY hi O;obtain⟨D,w,Y,N,J,E,p4,c4,e3,k1,k2,k3,k4,k5,k6,k7,k8,d1,d2,d3,d4⟩:=e2.form;subst e3;exact⟨j,o,D,w,Cl,by rw[R];exact cW d (aJ e1 (i:=2) rfl),by rw[R];exact cW d (aJ e1 (i:=3) rfl),by rw[R];exact k5.le d⟩
 rcases hk with rfl|rfl
 ·have y:=Yx rfl;have P:qe u ⟨20,a,b⟩ s=eS (fe u.ak s ([]++(bz u a).args)) (bz u a).out:=by
   unfold qe;simp;omega
  rw[P];have A:=Q.bz y;have ho:=dS A.2.2;obtain⟨j,o,K,F,B,ra,ro,ri⟩:=args h a (z_ h) y.1 y.2;have C:∀ t∈[]++(bz u a).args,0<=t/\t < 8+(u.ak.length:Int):=λt c=>by
   have:=dS (A.2.1 t (by simpa using c));omega
  refine bE ax func198 GF DV rfl ?_;conv=>whnf
  refine cZ [] rfl (λb0 e z e0 d x=>?_);conv=>whnf
  refine bZ ?_;conv=>whnf
  have SH:=cW d ra;repeat' ((first|exact trivial|apply T_|refine ay ?_|refine aL B ?_|refine ld SH ?_|refine uP d ri ?_|refine gj (l:=[]) (dL x) (by simpa using z) d rfl (by simp;omega) (λt c=>by have:=C t c;unfold cy;omega) (λY N h2 B2 f X r2 V=>?_)|refine AA (hcs.le f (λ_ _ S=>S.le f)) ok (G.1.le f) (G.2.le f) rfl r2 hv (λt c=>(C t c).2) (λL D T w J W E M m=>?_))<;>conv=>whnf)
  all_goals
   have SI:=cW f ro;repeat' ((first|exact trivial|apply T_|refine ay ?_|refine aL B ?_|refine ld SI ?_|refine qc m (by unfold cy;omega) (fR hl2) (λh4 L D T w J W E M g m=>?_))<;>conv=>whnf)
   all_goals first|exact y_ f g|exact m
 have y:=Yy rfl;have P:qe u ⟨21,a,b⟩ s=if find u a b < 0 then none else eS (fe u.ak s ([8+a]++(bz u (find u a b)).args)) (bz u (find u a b)).out:=rfl
 rw[P];have H:=λ(e:Heap) (d:h.le e)=>pL _ u a b e (tH.le d) ok O y.2;have hfb:=eD u a b;by_cases p:find u a b < 0
 ·rw[if_pos p];generalize find u a b=k at H p;refine bE ax func198 GF DV rfl ?_;conv=>whnf
  refine cZ [] rfl (λb0 e z e0 d x=>?_);conv=>whnf
  refine au (H e d) ?_;conv=>whnf
  refine av ?_;conv=>whnf
  refine gj (l:=[]) (k:=[8+a]) (dL x) (by simpa using z) d rfl Z (λt c=>by simp at c;unfold cy;omega) (λY N h2 B2 f X r2 V=>?_);conv=>whnf
  refine fD p ?_;conv=>whnf
  exact⟨f,_,_,_,_,_,_,_,rfl⟩
 rw[if_neg p];have I:0<=find u a b/\find u a b < u.methods.length:=by omega
 generalize find u a b=k at H p I;have A:=Q.bz I;have ho:=dS A.2.2;obtain⟨j,o,K,F,B,ra,ro,ri⟩:=args h k (z_ h) I.1 I.2;have C:∀ t∈([]++[8+a])++(bz u k).args,0<=t/\t < 8+(u.ak.length:Int):=λt c=>by
  simp only[List.nil_append,List.cons_append,List.mem_cons]at c;rcases c with rfl|c
  ·omega
  have:=dS (A.2.1 t c);omega
 refine bE ax func198 GF DV rfl ?_;conv=>whnf
 refine cZ [] rfl (λb0 e z e0 d x=>?_);conv=>whnf
 refine au (H e d) ?_;conv=>whnf
 refine av ?_;conv=>whnf
 refine gj (l:=[]) (k:=[8+a]) (dL x) (by simpa using z) d rfl Z (λt c=>by simp at c;unfold cy;omega) (λY N h2 B2 f X r2 V=>?_);conv=>whnf
 refine cu p ?_;conv=>whnf
 have SH:=cW f ra;repeat' ((first|exact trivial|apply T_|refine ay ?_|refine aL B ?_|refine ld SH ?_|refine uP f ri ?_|refine gj (l:=[]++[8+a]) X V f rfl (by simp;omega) (λt c=>by have:=C t c;unfold cy;omega) (λp4 c4 h4 B4 g o4 r4 n4=>?_)|refine AA (hcs.le g (λ_ _ S=>S.le g)) ok (G.1.le g) (G.2.le g) rfl r4 hv (λt c=>(C t c).2) (λL D T w J W E M m=>?_))<;>conv=>whnf)
 all_goals
  have SI:=cW g ro;repeat' ((first|exact trivial|apply T_|refine ay ?_|refine aL B ?_|refine ld SI ?_|refine qc m (by unfold cy;omega) (fR hl2) (λh5 L D T w J W E M l5 m=>?_))<;>conv=>whnf)
  all_goals first|exact y_ g l5|exact m
def stepT (u:aI) (m:bT) (i:dc) (s:cz):Option cz :=
 if i.kind=22 then fe u.ak s [m.out]
 else if i.kind=20\/i.kind=21 then qe u i s
 else if 12<=i.kind/\i.kind<=19 then oR u.ak i s
 else kr u.ak i s
structure mY (n:Nat) (k:Int) (s:cz):Prop where
 loc:(s.locals.length:Int)=k
 mZ:∀ t∈s.locals,0<=t/\t < 8+(n:Int)
 cA:∀ t∈s.stack,0<=t/\t < 8+(n:Int)
 len:s.stack.length<=4
theorem rj (us ms:List Value) (u:aI) (m:bT) (o:Int) (s:cz) (lp W:Option Addr) (X V:Nat) (h:Heap) (hu:dn h us u) (hm:dz h ms m) (hV:AE u) (hI:jL h s lp W X V) (i:mY u.ak.length m.locals s) (hl:m.locals<=3) (wX:0<=o/\o < m.code.length) (f:dw u m (m.code.getD o.toNat dR)) (tO:bL u.ak.length m.out) :
  bq prog 140 [.agg ⟨us⟩,.agg ⟨ms⟩,.int .i64 o,.agg #[.bool s.told,.slice lp s.locals.length X,.slice W s.stack.length V]] h λv h'=>h.le h'/\qb h' v (stepT u m (m.code.getD o.toNat dR) s):=by
 have tH:=hu;obtain⟨p,Q,q,ab,rfl,hcs,lR,jq,SG⟩:=hu.form;have ok:=hV.1;have sH:=ok.2.1;obtain⟨J,C,p2,c2,K,D,p4,c4,rfl,k1,k2,k3,k4,k5,k6,k7,k8,d1,d2,d3,d4⟩:=hm.form;have mC:o.toNat < m.code.length:=by omega
 obtain⟨bc,oc,UP,G6,f1,f2,f3⟩:=k6.get mC;have hg:m.code.getD o.toNat dR=m.code[o.toNat]:=by simp[mC]
 rw[hg]at f ⊢;subst f2;generalize m.code[o.toNat]=aa at f1 f;obtain⟨b,e,j⟩:=aa;simp only at f1;have m0:=q9 s.told lp W X V s.locals s.stack h hI.1 hI.2 (by have:=i.loc;omega) (by have:=i.len;omega);have G:∀ t∈s.stack,t < 8+(u.ak.length:Int):=λt A=>(i.cA t A).2;have OZ:=i.len;have Vd:=dS tO;have i1:∀ t∈s.locals,cy t:=λt A=>by have:=i.mZ t A;unfold cy;omega
 have i2:∀ t∈s.stack,cy t:=λt A=>by have:=i.cA t A;unfold cy;omega
 have g:stepT u m ⟨b,e,j⟩ s=if b=22 then fe u.ak s [m.out]else if b=20\/b=21 then qe u ⟨b,e,j⟩ s else if 12<=b/\b<=19 then oR u.ak ⟨b,e,j⟩ s else kr u.ak ⟨b,e,j⟩ s:=rfl
 generalize stepT u m ⟨b,e,j⟩ s=res at g;refine bE ax func140 Qd U rfl ?_;conv=>whnf
 refine ay ?_;conv=>whnf
 refine aL G6 ?_;conv=>whnf
 refine dZ f1 ?_;conv=>whnf
 refine aB m0 (λv y c=>?_);refine c.elim λL c=>c.elim λE c=>c.elim λM c=>c.elim λF c=>c.elim λB1 c=>c.elim λB2 c=>?_;have hv:=c.1;subst hv;have st:=c.2;have x:=st.le;have r1:=(cM st.o1 (by have:=i.loc;omega) i1).2;have r2:=(cM st.o2 O i2).2;have z:jL y s L M E F:=⟨r1,r2⟩
 have R:eP y (.slice p u.ak.length Q) u.ak:=hcs.le x (λ_ _ f=>f.le x);have Yz:=tH.le x;by_cases H:b=22
 ·rw[if_pos H]at g;subst H;conv=>whnf
  refine cZ [.int .i64 m.out] rfl (λb3 h3 uN e3 B g3=>?_);conv=>whnf
  refine E2 (types:=[m.out]) (R.le B (λ_ _ f=>f.le B)) ok (z.1.le B) (z.2.le B) rfl (qd g3 Z (λaa S=>by rw[V_.1 S];omega)) G (λaa S=>by rw[V_.1 S];omega) (λN J Y C K n3 D P i=>?_);conv=>whnf
  rw[g];exact⟨y_ x B,i⟩
 rw[if_neg H]at g;by_cases w:b=20\/b=21
 ·rw[if_pos w]at g;have IW:=CQ _ u b e j s L M E F y Yz hV z G O w (λd=>by
   subst d;have:=(aS (p:=7) (q:=0) rfl).1 f;simp[bh]at this;exact this.1.1) (λd=>by
   subst d;have:=(aS (p:=5) (q:=9) rfl).1 f;simp[bh]at this;exact this.1)
  rw[<-g]at IW;rcases w with rfl|rfl;all_goals
   conv=>whnf
   refine aB IW (λv h2 c=>?_);refine c.2.form.elim λN a=>a.elim λJ a=>a.elim λY a=>a.elim λC a=>a.elim λK a=>a.elim λn3 a=>a.elim λD a=>a.elim λP a=>?_;subst a;conv=>whnf
   exact⟨y_ x c.1,c.2⟩
 rw[if_neg w]at g;have JZ:¬b=20:=λd=>w (.inl d);have J0:¬b=21:=λd=>w (.inr d);conv=>whnf
 refine cu H ?_;conv=>whnf
 refine cu JZ ?_;conv=>whnf
 refine cu J0 ?_;conv=>whnf
 refine au (dW _ _ _ _) ?_;conv=>whnf
 apply aC<;>intro I;all_goals conv=>whnf
 ·rw[if_pos I]at g;have T:(b=12\/b=17\/b=18\/b=19->0<=e/\e < u.ak.length)/\(b=17\/b=18->0<=j/\j < (bV u.ak e).length):=f.iJ;have J3:b=13\/b=15\/b=16->e=0\/e=1:=λd=>by
   rcases d with rfl|rfl|rfl;all_goals
    have:=(aS (p:=6) (q:=0) rfl).1 f;simp[bh]at this;exact this.1
  have YA:b=14->e=0:=λd=>by
   subst d;have:=(aS (p:=0) (q:=0) rfl).1 f;simp[bh]at this;exact this.1
  have E4:=AD p u.ak.length Q u.ak b e j s L M E F y R ok z G O I (by
   by_cases d:b=12\/b=17\/b=18\/b=19
   ·have:=T.1 d;omega
   by_cases Ve:b=14
   ·have:=YA Ve;omega
   have:=J3 O;omega) (λd=>(T.1 d).2) T.2
  rw[<-g]at E4;refine aB E4 (λv h2 c=>?_);refine c.2.form.elim λN a=>a.elim λJ a=>a.elim λY a=>a.elim λC a=>a.elim λK a=>a.elim λn3 a=>a.elim λD a=>a.elim λP a=>?_;subst a;conv=>whnf
  exact⟨y_ x c.1,c.2⟩
 rw[if_neg I]at g;have E5:=AB p u.ak.length Q u.ak b e j s L M E F B1 B2 h y R ok st z G (λd=>by
  rcases d with rfl|rfl;all_goals
   have:=(aS (p:=2) (q:=0) rfl).1 f;simp[bh]at this;have:=i.loc;omega) (by have:=i.loc;omega) O
 rw[<-g]at E5;refine aB E5 (λv h2 c=>?_);refine c.2.form.elim λN a=>a.elim λJ a=>a.elim λY a=>a.elim λC a=>a.elim λK a=>a.elim λn3 a=>a.elim λD a=>a.elim λP a=>?_;subst a;conv=>whnf
 exact c
def oS (cs:List dB) (a b:cz):Bool:=decide (a.stack.length=b.stack.length)&&(cU cs a.locals b.locals&&cU cs a.stack b.stack)
theorem vF {cs:List dB} (l r:List Int):cU cs (l.drop l.length) (r.drop l.length)=true:=by rw[List.drop_length];simp[cU]
theorem wY (p:Option Addr) (n c:Nat) (cs:List dB) (s r:cz) (lp q v m:Option Addr) (u o mc j:Nat) (h:Heap) (F:eP h (.slice p n c) cs) (ok:bX cs) (g:jL h s lp q u o) (E:jL h r v m mc j) (W:s.locals.length<=r.locals.length) (R:∀ t∈s.locals,t < 8+(cs.length:Int)) (S:∀ t∈s.stack,t < 8+(cs.length:Int))
  (P:∀ t∈r.locals,t < 8+(cs.length:Int)) (Q:∀ t∈r.stack,t < 8+(cs.length:Int)) :
  Pure prog 138 [.slice p n c,.agg #[.bool s.told,.slice lp s.locals.length u,.slice q s.stack.length o],.agg #[.bool r.told,.slice v r.locals.length mc,.slice m r.stack.length j]] h (.bool (oS cs s r)):=by
 have X:=g.1.1;have Y:=g.2.1;have f:∀ {D:Bool},oS cs s r=D->Value.bool D=.bool (oS cs s r):=λI=>by rw[I]
 refine gF ax func138 Qb U rfl ?_;conv=>whnf
 apply aX<;>intro J;all_goals conv=>whnf
 ·exact⟨f (by unfold oS;simp;omega),rfl⟩
 have N:s.stack.length=r.stack.length:=by omega
 have M:oS cs s r=(cU cs (s.locals.drop 0) (r.locals.drop 0)&&cU cs s.stack r.stack):=by unfold oS;simp[N]
 refine eF [0,4,5,7] [4,5] (λi:Nat=>i<=s.locals.length/\oS cs s r=(cU cs (s.locals.drop i) (r.locals.drop i)&&cU cs s.stack r.stack)) (λi=>s.locals.length-i)
  (λi=>([.v (.slice p n c),.l 4 0,.l 5 0,.v (.int .i64 i)],[some [.bool s.told,.slice lp s.locals.length u,.slice q s.stack.length o],some [.bool r.told,.slice v r.locals.length mc,.slice m r.stack.length j]],h)) 0 ⟨O,M⟩ rfl ?_
 rintro i ⟨L,a⟩;conv=>whnf
 apply aC<;>intro y;all_goals conv=>whnf
 ·have d:i < s.locals.length:=by omega
  have e:i < r.locals.length:=by omega
  obtain⟨G,T,B,w⟩:=g.1.at d;obtain⟨H,V,C,x⟩:=E.1.at e;have A:=qS p n c cs s.locals[i] r.locals[i] h F ok (R _ (x_ d)) (P _ (x_ e));rw[jK d e]at a;repeat' ((first|refine ay ?_|refine aL B ?_|refine aL C ?_|refine ld w ?_|refine ld x ?_|refine aP A ?_)<;>conv=>whnf)
  apply dG<;>intro b;all_goals conv=>whnf
  ·exact⟨f (by rw[a,b];rfl),rfl⟩
  refine av ?_;conv=>whnf
  refine cL (i+1) ⟨O,by rw[a,b];rfl⟩ O rfl
 have z:i=s.locals.length:=by omega
 subst z;rw[vF,Bool.true_and]at a;have K:oS cs s r=cU cs (s.stack.drop 0) (r.stack.drop 0):=a;refine eF [0,4,5,8] [4,5] (λi:Nat=>i<=s.stack.length/\oS cs s r=cU cs (s.stack.drop i) (r.stack.drop i)) (λi=>s.stack.length-i)
  (λi=>([.v (.slice p n c),.l 4 0,.l 5 0,.v (.int .i64 i)],[some [.bool s.told,.slice lp s.locals.length u,.slice q s.stack.length o],some [.bool r.told,.slice v r.locals.length mc,.slice m r.stack.length j]],h)) 0 ⟨O,K⟩ rfl ?_
 rintro i ⟨L,a⟩;conv=>whnf
 apply aC<;>intro y;all_goals conv=>whnf
 ·have d:i < s.stack.length:=by omega
  have e:i < r.stack.length:=by omega
  obtain⟨G,T,B,w⟩:=g.2.at d;obtain⟨H,V,C,x⟩:=E.2.at e;have A:=qS p n c cs s.stack[i] r.stack[i] h F ok (S _ (x_ d)) (Q _ (x_ e));rw[jK d e]at a;repeat' ((first|refine ay ?_|refine aL B ?_|refine aL C ?_|refine ld w ?_|refine ld x ?_|refine aP A ?_)<;>conv=>whnf)
  apply dG<;>intro b;all_goals conv=>whnf
  ·exact⟨f (by rw[a,b];rfl),rfl⟩
  refine av ?_;conv=>whnf
  refine cL (i+1) ⟨O,by rw[a,b];rfl⟩ O rfl
 have z:i=s.stack.length:=by omega
 subst z;rw[vF]at a;exact⟨f a,rfl⟩
theorem BK {cs:List dB} (ok:bX cs):∀(k:Nat) {a:Int},a.toNat < k->0<=a->a < cs.length->up cs a 0=true
 | 0,a,h,_,_=>by omega
 | k+1,a,h,h0,hl=>by
  rw[fK ok h0 hl];by_cases e:a=0
  ·simp[e]
  have c:a.toNat < cs.length:=by omega
  have b:=ok.2.2 a.toNat c;have f:bB cs a=cs[a.toNat].bJ:=by have:=js c;rwa [show((a.toNat:Nat):Int)=a by omega]at this
  have i:=ok.bJ h0 hl;have d:0<=bB cs a:=by
   rw[f];rcases Nat.lt_trichotomy a.toNat 1 with g|g|g
   ·omega
   ·rw[(b.2.2.1 g).1];omega
   exact(b.2.2.2.1 g).1
  have:=BK ok k (a:=bB cs a) O d O;simp[this]
theorem E6 {cs:List dB} (ok:bX cs) {a:Int} (h0:0 < a) (e:a < cs.length):0<=bB cs a:=by
 have c:a.toNat < cs.length:=by omega
 have b:=ok.2.2 a.toNat c;have d:bB cs a=cs[a.toNat].bJ:=by have:=js c;rwa [show((a.toNat:Nat):Int)=a by omega]at this
 rw[d];rcases Nat.lt_trichotomy a.toNat 1 with g|g|g
 ·omega
 ·rw[(b.2.2.1 g).1];omega
 exact(b.2.2.2.1 g).1
theorem E7 (p:Option Addr) (n c:Nat) (cs:List dB) (a b:Int) (h:Heap) (e:eP h (.slice p n c) cs) (ok:bX cs) (s:0<=a/\a < cs.length) (d:0<=b/\b < cs.length) :
  bq prog 271 [.slice p n c,.int .i64 a,.int .i64 b] h λv q=>q=h/\∃ j,v=.int .i64 j/\0<=j/\j<=a:=by
 have B:=e.n;refine bE ax func271 Ry U rfl ?_;conv=>whnf
 refine eF [0,1,2] [] (λj:Int=>0<=j/\j<=a) (λj=>j.toNat) (λj=>([.v (.slice p n c),.v (.int .i64 j),.v (.int .i64 b)],[],h)) a ⟨s.1,O⟩ rfl ?_;rintro j ⟨f,u⟩;conv=>whnf
 refine au (oH p n c cs b j h e ok O d.2 f) ?_;conv=>whnf
 apply dG<;>intro g;all_goals conv=>whnf
 ·have t:0 < j:=by
   rcases Int.lt_or_le 0 j with i|i
   ·exact i
   have:j=0:=by omega
   rw[this,BK ok (b.toNat+1) O d.1 d.2]at g;cases g
  have m:j.toNat < cs.length:=by omega
  obtain⟨z,D,E,k,A,w,_,o,_⟩:=e.at m;have x:bB cs j=cs[j.toNat].bJ:=by have:=js m;rwa [show((j.toNat:Nat):Int)=j by omega]at this
  rw[<-x]at o;have C:=ok.bJ f O;have y:=E6 ok t O;repeat' ((first|refine aL w ?_|refine ld o ?_|refine ay ?_|refine av ?_|refine ptr ?_)<;>conv=>whnf)
  exact cL (bB cs j) ⟨y,O⟩ O rfl
 exact⟨rfl,j,rfl,f,u⟩
def ku (t:Int):Nat:=if t=0 then 0 else if t=1 then 1 else if t=2 then 10 else if t < 8 then 2 else (t-7).toNat
def iS (cs:List dB) (a r:Int):Prop:=(0<=r/\r < 8+(cs.length:Int))/\ku r<=ku a/\(dQ cs r a=false->ku r < ku a)
theorem Hu {cs:List dB} (ok:bX cs) {a b:Int} (m:0<=a/\a < 8+(cs.length:Int)) (o:0<=b/\b < 8+(cs.length:Int)) (h:dQ cs a b=true):ku b<=ku a/\(b≠a->ku b < ku a):=by
 have p:=ok.2.1;unfold dQ at h;by_cases f:a=b\/b=0
 ·rcases f with rfl|rfl
  ·exact⟨Nat.le_refl _,λe=>absurd rfl e⟩
  refine⟨by simp[ku],λe=>?_⟩;unfold ku;rw[if_pos rfl,if_neg (λh=>e h.symm)];split
  ·omega
  split
  ·omega
  split<;>omega
 rw[if_neg f]at h;by_cases c:a=2
 ·rw[if_pos c]at h;simp at h;unfold ku;subst c;have:¬b=0/\¬b=1/\¬b=2:=by omega
  rw[if_neg this.1,if_neg this.2.1,if_neg this.2.2];split
  ·simp
  simp;omega
 rw[if_neg c]at h;by_cases g:a < 2\/b < 8
 ·rw[if_pos g]at h;cases h
 rw[if_neg g]at h;have d:¬b=0/\¬b=1/\¬b=2/\¬b < 8:=by omega
 have j:¬a=0/\¬a=1:=by omega
 unfold ku;rw[if_neg d.1,if_neg d.2.1,if_neg d.2.2.1,if_neg d.2.2.2,if_neg j.1,if_neg j.2,if_neg c];by_cases i:a < 8
 ·rw[if_pos i]at h ⊢;simp at h;omega
 rw[if_neg i]at h ⊢;have hle:=Mw ok O h;omega
theorem jj (cs:List dB) (a:Int):dQ cs a a=true:=by simp[dQ]
theorem CR (p:Option Addr) (n c:Nat) (cs:List dB) (a b:Int) (h:Heap) (q:eP h (.slice p n c) cs) (ok:bX cs) (i:0<=a/\a < 8+(cs.length:Int)) (m:0<=b/\b < 8+(cs.length:Int)) :
  bq prog 270 [.slice p n c,.int .i64 a,.int .i64 b] h λv C=>C=h/\∃ r,v=.int .i64 r/\iS cs a r:=by
 have D:=qS p n c cs a b h q ok i.2 m.2;have E:=qS p n c cs b a h q ok m.2 i.2;have L:=ok.2.1;have M:=ok.1;refine bE ax func270 Rx U rfl ?_;conv=>whnf
 refine au D ?_;conv=>whnf
 apply fh<;>intro g;all_goals conv=>whnf
 ·have y:=Hu ok i m g;refine⟨rfl,b,rfl,m,y.1,λd=>y.2 (λe=>?_)⟩;rw[e,jj]at d;cases d
 refine au E ?_;conv=>whnf
 apply fh<;>intro o;all_goals conv=>whnf
 ·exact⟨rfl,a,rfl,i,Nat.le_refl _,λd=>by rw[jj]at d;cases d⟩
 have zero:iS cs a 0:=by
  refine⟨⟨O,O⟩,by simp[ku],λd=>?_⟩;have F:¬a=0:=λe=>by rw[e,jj]at d;cases d
  unfold ku;rw[if_pos rfl,if_neg F];split
  ·omega
  split
  ·omega
  split<;>omega
 refine au (pM _ _) ?_;conv=>whnf
 apply aX<;>intro A;all_goals conv=>whnf
 ·exact⟨rfl,0,rfl,zero⟩
 refine au (pM _ _) ?_;conv=>whnf
 apply aX<;>intro B;all_goals conv=>whnf
 ·exact⟨rfl,0,rfl,zero⟩
 have K:b≠2:=λe=>by
  subst e;have:dQ cs 2 a=true:=by
   unfold dQ;by_cases f:2=a\/a=0
   ·rw[if_pos f]
   rw[if_neg f,if_pos rfl];simp;omega
  rw[this]at o;cases o
 have I:a≠2:=λe=>by
  subst e;have:dQ cs 2 b=true:=by
   unfold dQ;by_cases f:2=b\/b=0
   ·rw[if_pos f]
   rw[if_neg f,if_pos rfl];simp;omega
  rw[this]at g;cases g
 have t:a < 8\/b < 8->iS cs a 8:=λf=>by
  refine⟨⟨O,O⟩,?_,λd=>?_⟩
  ·unfold ku;have:¬a=0/\¬a=1/\¬a=2:=by omega
   rw[if_neg this.1,if_neg this.2.1,if_neg this.2.2];simp;split<;>omega
  have J:a≠8:=λe=>by rw[e,jj]at d;cases d
  unfold ku;have:¬a=0/\¬a=1/\¬a=2:=by omega
  rw[if_neg this.1,if_neg this.2.1,if_neg this.2.2];simp;split<;>omega
 apply aC<;>intro u;all_goals conv=>whnf
 ·exact⟨rfl,8,rfl,t (.inl u)⟩
 apply aC<;>intro w;all_goals conv=>whnf
 ·exact⟨rfl,8,rfl,t (.inr w)⟩
 refine av ?_;conv=>whnf
 refine av ?_;conv=>whnf
 refine aB (E7 p n c cs (a-8) (b-8) h q ok O O) (λv H x=>?_);have z:=x.1;subst z;refine x.2.elim λj s=>?_;have G:=s.1;subst G;have N:=s.2.1;have P:=s.2.2;conv=>whnf
 refine av ?_;conv=>whnf
 refine⟨rfl,8+j,rfl,⟨O,O⟩,?_,λd=>?_⟩
 ·unfold ku;have:¬a=0/\¬a=1/\¬a=2/\¬a < 8/\¬8+j=0/\¬8+j=1/\¬8+j=2/\¬8+j < 8:=by omega
  rw[if_neg this.1,if_neg this.2.1,if_neg this.2.2.1,if_neg this.2.2.2.1,if_neg this.2.2.2.2.1,if_neg this.2.2.2.2.2.1,if_neg this.2.2.2.2.2.2.1,if_neg this.2.2.2.2.2.2.2];omega
 have Q:8+j≠a:=λe=>by rw[e,jj]at d;cases d
 unfold ku;have:¬a=0/\¬a=1/\¬a=2/\¬a < 8/\¬8+j=0/\¬8+j=1/\¬8+j=2/\¬8+j < 8:=by omega
 rw[if_neg this.1,if_neg this.2.1,if_neg this.2.2.1,if_neg this.2.2.2.1,if_neg this.2.2.2.2.1,if_neg this.2.2.2.2.2.1,if_neg this.2.2.2.2.2.2.1,if_neg this.2.2.2.2.2.2.2];omega
theorem oy.CS {h e:Heap} {p:Option Addr} {n c:Nat} {a u:List Int} {B1 f:List Nat} {v:Value} (s:oy h e (.slice p n c) a B1 v u f) {i:Nat} (A:i < a.length) :
  ∃ b,p=some ⟨b,0,none⟩/\rd e b (0+i*1)=some (.int .i64 a[i])/\∀(x:Int) (K:Heap->Prop),(∀ m,oy h m (.slice p n c) (a.set i x) B1 v u f->K m)->St e b (0+i*1) [.int .i64 x] K:=by
 have C:a=a.take i++a[i]::a.drop (i+1):=by simp
 have E:bY 1 e (.slice p n c) ((a.take i).map bD++bD a[i]::(a.drop (i+1)).map bD) B1:=by
  have:=s.o1;unfold dM at this;rw[show a.map bD=(a.take i).map bD++bD a[i]::(a.drop (i+1)).map bD by rw[<-List.map_cons,<-List.map_append,<-C]]at this;exact this
 obtain⟨d,J,pre,post,N,t,q,F,_,g,I⟩:=E.at;simp only[Z_]at t;obtain⟨rfl,L,rfl⟩:=t;have G:pre.length=i:=by rw[F];simp;omega
 have z:d ∉ f:=λH=>by
  have:=s.nd d;have:=W_.2 H;simp only[g,Y_,X_,List.count_nil,beq_self_eq_true,if_true]at *;omega
 refine⟨d,rfl,cX q (i:=0) O rfl,λx K B=>?_⟩;refine Bv q (pre++bD x++post) (by simp[G,bD]<;>omega) (mM (x':=bD x) O rfl) (λo j w=>B o ⟨?_,?_,?_,s.nd,s.fr⟩)
 ·rw[j];exact Heap.aT s.le (s.fr d (by rw[g];simp))
 ·have:=I o (bD x) w rfl;unfold dM;rw[show(a.set i x).map bD=(a.take i).map bD++bD x::(a.drop (i+1)).map bD by rw[List.set_eq_take_append_cons_drop,if_pos A,List.map_append,List.map_cons]];rw[g]at this ⊢;exact this
 exact s.o2.aK λb y M D=>by
  have:b≠d:=by rintro rfl;exact z y
  rw[j];simp only[Heap.set,this,if_false];exact D
theorem oy.Ns {h e:Heap} {p:Option Addr} {n c:Nat} {g d:List Int} {B1 f:List Nat} {j:Value} (s:oy h e j g B1 (.slice p n c) d f) {i:Nat} (o:i < d.length) :
  ∃ b,p=some ⟨b,0,none⟩/\rd e b (0+i*1)=some (.int .i64 d[i])/\∀(x:Int) (K:Heap->Prop),(∀ a,oy h a j g B1 (.slice p n c) (d.set i x) f->K a)->St e b (0+i*1) [.int .i64 x] K:=by
 obtain⟨b,m,r,k⟩:=s.swap.CS o;exact⟨b,m,r,λx K q=>k x K (λa t=>q a t.swap)⟩
theorem BL {K:Value->Heap->Prop} {E:List PanicEntry->Heap->Prop} {p:Option Addr} {n c:Nat} {cs:List dB} {a b:Int} {h:Heap} (g:eP h (.slice p n c) cs) (ok:bX cs) (e:0<=a/\a < 8+(cs.length:Int)) (f:0<=b/\b < 8+(cs.length:Int)) (d:∀ r,iS cs a r->K (.int .i64 r) h):gD prog 270 [.slice p n c,.int .i64 a,.int .i64 b] h K E :=
 cP (CR p n c cs a b h g ok e f) (λv m i=>by
  obtain⟨rfl,r,rfl,j⟩:=i;exact⟨z_ _,d r j⟩)
def IX (cs:List dB) (a r:cz):Prop:=r=iR\/(r.told=a.told/\r.locals.length=a.locals.length/\r.stack.length=a.stack.length/\(∀ i (b:i < a.locals.length) (c:i < r.locals.length),iS cs a.locals[i] r.locals[i])/\∀ i (b:i < a.stack.length) (c:i < r.stack.length),iS cs a.stack[i] r.stack[i])
def sJ (h:Heap) (v:Value) (r:cz):Prop:=∃ c a d b,v=.agg #[.bool r.told,.slice c r.locals.length a,.slice d r.stack.length b]/\jL h r c d a b
theorem E8 {h a:Heap} {v:Value} (d:h.le a/\∃ b c,v=.agg #[.bool false,.slice (some ⟨b,0,none⟩) 0 0,.slice (some ⟨c,0,none⟩) 0 0]):h.le a/\sJ a v iR:=by
 obtain⟨e,b,c,rfl⟩:=d;exact⟨e,_,_,_,_,rfl,dX _ _ _,dX _ _ _⟩
theorem iS.refl {cs:List dB} {a:Int} (c:0<=a/\a < 8+(cs.length:Int)):iS cs a a:=⟨c,Nat.le_refl _,λb=>by rw[jj]at b;cases b⟩
theorem CT (p:Option Addr) (n c:Nat) (cs:List dB) (s r:cz) (lp D N M:Option Addr) (E C mc L:Nat) (h:Heap) (hcs:eP h (.slice p n c) cs) (ok:bX cs) (G:jL h s lp D E C) (hJ:jL h r N M mc L) (hl:s.locals.length<=r.locals.length) (vr:s.locals.length<=1000) (sG:s.stack.length<=1000)
  (EB:∀ t∈s.locals,0<=t/\t < 8+(cs.length:Int)) (J4:∀ t∈s.stack,0<=t/\t < 8+(cs.length:Int)) (IY:∀ t∈r.locals,0<=t/\t < 8+(cs.length:Int)) (Vf:∀ t∈r.stack,0<=t/\t < 8+(cs.length:Int)) :
  bq prog 269 [.slice p n c,.agg #[.bool s.told,.slice lp s.locals.length E,.slice D s.stack.length C],.agg #[.bool r.told,.slice N r.locals.length mc,.slice M r.stack.length L]] h λv h'=>h.le h'/\∃ x,sJ h' v x/\IX cs s x:=by
 have m0:=q9 s.told lp D E C s.locals s.stack h G.1 G.2 O O;have sH:=ok.2.1;have Nt:∀ {t:Int},0<=t->t < 8+(cs.length:Int)->cy t:=λh0 b=>by unfold cy;omega
 refine bE ax func269 Rw U rfl ?_;conv=>whnf
 refine aB m0 (λv b a=>?_);refine a.elim λw a=>a.elim λq a=>a.elim λy a=>a.elim λu a=>a.elim λB1 a=>a.elim λB2 a=>?_;have hv:=a.1;subst hv;have st:=a.2;conv=>whnf
 apply aX<;>intro aa;all_goals conv=>whnf
 ·refine aB (ji b) (λv d a=>?_);have B:=E8 a;refine a.2.elim λR f=>f.elim λS f=>?_;subst f;conv=>whnf
  exact⟨y_ st.le B.1,iR,B.2,.inl rfl⟩
 have hk:s.stack.length=r.stack.length:=by omega
 refine eF [0,4,5,6,7,8] [4,5,6,7] (λx:Nat × Heap × List Int=>x.1<=s.locals.length/\x.2.2.length=s.locals.length/\oy h x.2.1 (.slice w s.locals.length q) x.2.2 B1 (.slice y s.stack.length u) s.stack B2/\∀ j (b:j < s.locals.length) (d:j < x.2.2.length),iS cs s.locals[j] x.2.2[j]) (λx=>s.locals.length-x.1)
  (λx=>([.v (.slice p n c),.l 4 0,.l 5 0,.l 6 0,.l 7 0,.v (.int .i64 x.1)],[some [.bool s.told,.slice lp s.locals.length E,.slice D s.stack.length C],some [.bool r.told,.slice N r.locals.length mc,.slice M r.stack.length L],some [.bool false,.slice none 0 0,.slice none 0 0],some [.bool s.told,.slice w s.locals.length q,.slice y s.stack.length u]],x.2.1))
  (0,b,s.locals) ⟨O,rfl,st,λj b d=>iS.refl (EB _ (x_ b))⟩ rfl ?_
 rintro⟨i,d,F⟩ ⟨X,K,o,H⟩;simp only at X K o H ⊢;conv=>whnf
 apply aC<;>intro V;all_goals conv=>whnf
 ·have z:i < s.locals.length:=by omega
  have A:i < r.locals.length:=by omega
  obtain⟨R,o1,w1,P⟩:=(G.1.le o.le).at z;obtain⟨S,o2,w2,Q⟩:=(hJ.1.le o.le).at A;obtain⟨b3,w3,_,put⟩:=o.CS (i:=i) O;have W:=hcs.le o.le (λ_ _ g=>g.le o.le);repeat' ((first|exact trivial|apply T_|refine ay ?_|refine aL w1 ?_|refine aL w2 ?_|refine aL w3 ?_|refine ld P ?_|refine ld Q ?_|refine BL W ok (EB _ (x_ z)) (IY _ (x_ A)) (λx g=>?_))<;>conv=>whnf)
  all_goals
   refine put x _ (λh3 e=>?_);conv=>whnf
   refine av ?_;conv=>whnf
   refine cL (i+1,h3,F.set i x) ⟨by simp only;omega,by simpa using K,e,λj b d=>?_⟩ (by simp only;omega) rfl;simp only;rw[List.getElem_set];split
   ·rename_i T;subst T;exact g
   exact H j b (by simpa using d)
 have Y:i=s.locals.length:=by omega
 subst Y;refine eF [0,4,5,6,7,9] [4,5,6,7] (λx:Nat × Heap × List Int=>x.1<=s.stack.length/\x.2.2.length=s.stack.length/\oy h x.2.1 (.slice w s.locals.length q) F B1 (.slice y s.stack.length u) x.2.2 B2/\∀ j (b:j < s.stack.length) (d:j < x.2.2.length),iS cs s.stack[j] x.2.2[j]) (λx=>s.stack.length-x.1)
  (λx=>([.v (.slice p n c),.l 4 0,.l 5 0,.l 6 0,.l 7 0,.v (.int .i64 x.1)],[some [.bool s.told,.slice lp s.locals.length E,.slice D s.stack.length C],some [.bool r.told,.slice N r.locals.length mc,.slice M r.stack.length L],some [.bool false,.slice none 0 0,.slice none 0 0],some [.bool s.told,.slice w s.locals.length q,.slice y s.stack.length u]],x.2.1))
  (0,d,s.stack) ⟨O,rfl,o,λj b d=>iS.refl (J4 _ (x_ b))⟩ rfl ?_
 rintro⟨i,h3,m⟩ ⟨X,J,e,I⟩;simp only at X J e I ⊢;conv=>whnf
 apply aC<;>intro V;all_goals conv=>whnf
 ·have z:i < s.stack.length:=by omega
  have A:i < r.stack.length:=by omega
  obtain⟨R,o1,w1,P⟩:=(G.2.le e.le).at z;obtain⟨S,o2,w2,Q⟩:=(hJ.2.le e.le).at A;obtain⟨b3,w3,_,put⟩:=e.Ns (i:=i) O;have W:=hcs.le e.le (λ_ _ g=>g.le e.le);repeat' ((first|exact trivial|apply T_|refine ay ?_|refine aL w1 ?_|refine aL w2 ?_|refine aL w3 ?_|refine ld P ?_|refine ld Q ?_|refine BL W ok (J4 _ (x_ z)) (Vf _ (x_ A)) (λx g=>?_))<;>conv=>whnf)
  all_goals
   refine put x _ (λh4 SJ=>?_);have SK:∀ j (b:j < s.stack.length) (d:j < (m.set i x).length),iS cs s.stack[j] (m.set i x)[j]:=λj b d=>by
    rw[List.getElem_set];split
    ·rename_i T;subst T;exact g
    exact I j b (by simpa using d)
   have SL:i < (m.set i x).length:=by simp;omega
   refine(SJ.Ns SL).elim λb4 hp=>?_;have w4:=hp.1;have r4:=hp.2.1;conv=>whnf
   repeat' ((first|refine aL w4 ?_|refine ld r4 ?_|refine ay ?_|refine av ?_|refine ptr ?_)<;>conv=>whnf)
   apply aC<;>intro g0;all_goals conv=>whnf
   ·refine aB (ji h4) (λv h5 a=>?_);have B:=E8 a;refine a.2.elim λR f=>f.elim λS f=>?_;subst f;conv=>whnf
    exact⟨y_ SJ.le B.1,iR,B.2,.inl rfl⟩
   refine av ?_;conv=>whnf
   exact cL (i+1,h4,m.set i x) ⟨by simp only;omega,by simpa using J,SJ,SK⟩ (by simp only;omega) rfl
 have Y:i=s.stack.length:=by omega
 subst Y;have il:∀ t∈F,cy t:=λt ht=>by
  obtain⟨j,hj,rfl⟩:=List.mem_iff_getElem.1 ht;have:=(H j O hj).1;exact Nt this.1 this.2
 have ik:∀ t∈m,cy t:=λt ht=>by
  obtain⟨j,hj,rfl⟩:=List.mem_iff_getElem.1 ht;have:=(I j O hj).1;exact Nt this.1 this.2
 have r1:=(cM e.o1 O il).2;have r2:=(cM e.o2 O ik).2;refine⟨e.le,⟨s.told,F,m⟩,⟨w,q,y,u,?_,r1,r2⟩,.inr ⟨rfl,K,J,H,I⟩⟩;show _=Value.agg #[.bool s.told,.slice w F.length q,.slice y m.length u];rw[K,J]
structure KC (u:aI) (m:bT):Prop where
 head:eC u.ak.length m
 len:1<=m.code.length/\m.code.length<=12
 code:∀ x∈m.code,dw u m x
 cat:kJ u m
theorem jM {n:Nat} {m:bT} (h:eC n m) (d:n<=5):∀ t∈br m,0<=t/\t < 8+(n:Int):=by
 intro t a;unfold br at a;rcases u_.1 a with a|a
 ·split at a
  ·rename_i c;rw[V_.1 a];rcases h.1 with b|b
   ·omega
   omega
  cases a
 have:=dS (h.2.2.2.1 t a);omega
theorem AF (us C:List Value) (m:bT) (n:Nat) (h:Heap) (F:dz h C m) (i:eC n m) (G:n<=5) :
  bq prog 196 [.agg ⟨C⟩] h λv x=>h.le x/\∃ p c B,v=.slice p (br m).length c/\dM x (.slice p (br m).length c) (br m) B/\∀ b∈B,h b=none:=by
 obtain⟨p1,Q,p2,R,p3,S,p4,T,rfl,k1,k2,k3,k4,o,k6,k7,k8,d1,d2,d3,d4⟩:=F.form;have H:=jM i G;have Y:=i.2.1;have I:=fy o;have Ae:=jh (m:=m);refine bE ax func196 QW U rfl ?_;conv=>whnf
 refine cZ [] rfl (λP y z V q w=>?_);conv=>whnf
 apply aC<;>intro g;all_goals conv=>whnf
 ·have YB:m.cls < 6:=by
   rcases i.1 with y|y
   ·omega
   omega
  refine av ?_;conv=>whnf
  refine gj (l:=[]) (k:=[8+m.cls]) (dL w) (by simpa using z) q rfl Z (λt d=>by simp at d;unfold cy;omega) (λq2 W X N A K r2 J=>?_);conv=>whnf
  refine uP A o ?_;conv=>whnf
  have a:([]++[8+m.cls])++m.args=br m:=by unfold br;rw[if_pos g];rfl
  refine gj (l:=[]++[8+m.cls]) K J A rfl (by simp;omega) (λt d=>by
   rw[a]at d;have:=H t d;unfold cy;omega) (λL D E f s e M u=>?_)
  conv=>whnf
  have j:([]++[8+m.cls]:List Int).length+m.args.length=(br m).length:=by rw[<-a];simp;omega
  rw[j,a]at e;rw[a];exact⟨s,_,_,f,rfl,e,u⟩
 refine uP q o ?_;conv=>whnf
 have a:[]++m.args=br m:=by unfold br;rw[if_neg g]
 refine gj (l:=[]) (dL w) (by simpa using z) q rfl (by simp;omega) (λt d=>I t (by simpa using d)) (λL D E f s e M u=>?_);conv=>whnf
 have j:([]:List Int).length+m.args.length=(br m).length:=by rw[<-a];simp
 rw[j,a]at e;rw[a];exact⟨s,_,_,f,rfl,e,u⟩
def dF (m:bT):cz:=⟨true,br m++List.replicate (m.locals.toNat-(br m).length) 0,[]⟩
theorem kT {n:Nat} {m:bT} (h:eC n m) (b:n<=5):mY n m.locals (dF m):=by
 have c:=h.2.2.2.2.2;refine⟨by simp[dF];omega,λt a=>?_,λt a=>by simp[dF]at a,by simp[dF]⟩;rcases u_.1 a with a|a
 ·exact jM h b t a
 rw[List.eq_of_mem_replicate a];omega
theorem oT (us o:List Value) (m:bT) (n:Nat) (h:Heap) (u:dz h o m) (c:eC n m) (g:n<=5) :
  bq prog 137 [.agg ⟨o⟩] h λv q=>h.le q/\sJ q v (dF m):=by
 have R:=AF us o m n h u c g;obtain⟨p1,F,p2,G,p3,H,p4,I,rfl,k1,k2,k3,k4,k5,k6,k7,k8,d1,d2,d3,d4⟩:=u.form;have Y:=jM c g;have Ae:=c.2.2.2.2.2;have si:=c.2.2.2.2.1;refine bE ax func137 Qa U rfl ?_;conv=>whnf
 refine aB R (λv h1 s=>?_);refine s.2.elim λq1 b=>b.elim λJ b=>b.elim λp b=>?_;have hv:=b.1;subst hv;have B:=b.2.1;have n1:=b.2.2;have l1:=s.1;conv=>whnf
 refine cZ [] rfl (λd N Q US z g3=>?_);have YC:d ∉ p:=λhx=>by obtain⟨aa,w⟩:=B.in d hx;rw[Q]at w;cases w
 conv=>whnf
 have e0:(br m).length=(br m++List.replicate 0 (0:Int)).length:=by simp
 refine eF [1,2,3] [1,2,3] (λx:Nat × Heap × Option Addr × Nat × List Nat=>((br m).length:Int)+x.1<=m.locals/\h.le x.2.1/\dM x.2.1 (.slice x.2.2.1 ((br m).length+x.1) x.2.2.2.1) (br m++List.replicate x.1 0) x.2.2.2.2/\∀ E∈x.2.2.2.2,h E=none) (λx=>m.locals.toNat-((br m).length+x.1))
  (λx=>([.l 1 0,.l 2 0,.l 3 0],[some [.int .i64 m.cls,.int .i64 m.eu,.slice p1 m.args.length F,.int .i64 m.out,.int .i64 m.locals,.slice p2 m.code.length G,.slice p3 m.aF.length H,.slice p4 m.catches.length I],some [.bool false,.slice none 0 0,.slice none 0 0],some [.bool true,.slice x.2.2.1 ((br m).length+x.1) x.2.2.2.1,.slice (some ⟨d,0,none⟩) 0 0]],x.2.1))
  (0,N,q1,J,p) ⟨by simp;omega,y_ l1 z,by simpa using B.aK (cS.of_le z _),n1⟩ rfl ?_
 rintro⟨j,h5,q5,K,B5⟩ ⟨S,i,f,A⟩;simp only at S i f A ⊢;conv=>whnf
 apply aC<;>intro M;all_goals conv=>whnf
 ·have uO:(br m++List.replicate j (0:Int)).length=(br m).length+j:=by simp
  refine gj (l:=br m++List.replicate j 0) (k:=[0]) f A i rfl (by simp;omega) (λt a=>by
   simp only[u_,V_]at a;rcases a with (a|a)|rfl
   ·have:=Y t a;unfold cy;omega
   ·rw[List.eq_of_mem_replicate a];unfold cy;omega
   unfold cy;omega) (λq6 L P D l6 C r6 n6=>?_)
  have X:(br m++List.replicate j (0:Int))++[0]=br m++List.replicate (j+1) 0:=by rw[List.replicate_succ',List.append_assoc]
  have V:((br m++List.replicate j (0:Int))++[0]).length=(br m).length+(j+1):=by simp<;>omega
  have W:(br m++List.replicate j (0:Int)).length + [(0:Int)].length=(br m).length+(j+1):=by simp<;>omega
  rw[W,X]at C;rw[V];conv=>whnf
  exact cL (j+1,P,q6,L,D) ⟨by simp only;omega,l6,C,n6⟩ (by simp only;omega) rfl
 have T:j=m.locals.toNat-(br m).length:=by omega
 have y:(dF m).locals=br m++List.replicate j 0:=by rw[T];rfl
 have e:(dF m).locals.length=(br m).length+j:=by rw[y];simp
 refine⟨i,q5,K,some ⟨d,0,none⟩,0,?_,?_,dX _ _ _⟩
 ·rw[e];rfl
 rw[e];rw[<-y]at f;have:=(cM f (by rw[e];omega) (λt a=>by
  have:=(kT c g).mZ t a;unfold cy;omega)).2
 rw[e]at this;exact this
def cV (i:dc):Bool:=decide (8<=i.kind/\i.kind<=11)
def eo (i:dc):Bool:=decide (i.kind=11\/i.kind=22\/i.kind=23)
theorem hY (k a b:Int) (h:Heap):Pure prog 201 [.agg #[.int .i64 k,.int .i64 a,.int .i64 b]] h (.bool (cV ⟨k,a,b⟩)):=by
 refine gF ax func201 Q0 U rfl ?_;conv=>whnf
 refine au (dW _ _ _ _) ?_;conv=>whnf
 exact⟨rfl,rfl⟩
theorem kU (k a b:Int) (h:Heap):Pure prog 142 [.agg #[.int .i64 k,.int .i64 a,.int .i64 b]] h (.bool (eo ⟨k,a,b⟩)):=by
 have e:eo ⟨k,a,b⟩=decide (k=11\/k=22\/k=23):=rfl;rw[e];refine gF ax func142 Qf U rfl ?_;conv=>whnf
 apply aC<;>intro g;all_goals conv=>whnf
 ·exact⟨by simp[g],rfl⟩
 apply aC<;>intro c;all_goals conv=>whnf
 ·exact⟨by simp[c],rfl⟩
 exact⟨by simp[g,c],rfl⟩
def bO (c:Int) (s:cz):cz:=⟨true,s.locals,[8+c]⟩
theorem m4 (H C to cls:Int) (s:cz) (lp u:Option Addr) (w q:Nat) (h:Heap) (j:jL h s lp u w q) (R:s.locals.length<=1000) (Q:0<=cls/\cls<=100) :
  bq prog 203 [.agg #[.int .i64 H,.int .i64 C,.int .i64 to,.int .i64 cls],.agg #[.bool s.told,.slice lp s.locals.length w,.slice u s.stack.length q]] h λv a=>h.le a/\sJ a v (bO cls s):=by
 have G:=fy j.1;have st:=oy.start h;have B:=j.1;have y:s.locals.length<=1000000:=by omega
 have z:∀ {a:Heap} {p1 c1 b d B2},oy h a (.slice p1 s.locals.length c1) s.locals d (.slice (some ⟨b,0,none⟩) 1 1) [8+cls] B2->h.le a/\sJ a (.agg #[.bool true,.slice p1 s.locals.length c1,.slice (some ⟨b,0,none⟩) 1 1]) (bO cls s):=λst=>by
  have I:=(cM st.o1 O G).2;have J:=(cM st.o2 Z (λt E=>by rw[V_.1 E];unfold cy;omega)).2;exact⟨st.le,_,_,_,_,rfl,I,J⟩
 have E1:∀ {a:Heap} {g f d} {ty:TypeId} {vs:List Value} {K:Nat->Heap->Prop},oy h a g f d (.slice none 0 0) [] []->vs=[.int .i64 (8+cls)]->(∀ b e,oy h e g f d (.slice (some ⟨b,0,none⟩) 1 1) [8+cls] [b]->K b e)->zB a vs ty K:=λ{a g f d ty vs K} s F D=>by
  subst F;refine cZ [.int .i64 (8+cls)] rfl (λb e m P l A=>D b e ⟨y_ s.le l,s.o1.aK (cS.of_le l _),jV (vs:=[bD (8+cls)]) (t:=ty) (by simp[bD]) rfl (by rw[A];rfl),?_,λx c=>?_⟩)
  ·exact Nd.two s.o1.nd (λM=>by simp only[X_,List.count_nil];split<;>omega) (λx c o=>by
    rw[V_.1 c]at o;obtain⟨S,p⟩:=s.o1.in b o;rw[m]at p;cases p)
  rcases u_.1 c with c|c
  ·exact s.fr x (by simp[c])
  rw[V_.1 c];exact eW s.le m
 refine bE ax func203 Q2 U rfl ?_;conv=>whnf
 repeat' ((first|exact trivial|exact z st|apply T_|refine av ?_|refine uP st.le B ?_|refine st.yT rfl y (λT N i L st=>?_)|refine E1 st rfl (λb i st=>?_)|refine st.E1 rfl (λb i st=>?_))<;>conv=>whnf)
def aV (h:Heap) (b:Nat):Heap:=λx=>if x=b then none else h x
theorem fk (h:Heap) (b:Nat):(aV h b).le h:=λx o a=>by
 unfold aV at a;split at a
 ·cases a
 exact a
theorem bQ {h c:Heap} (b:Nat) (d:h.le c):(aV h b).le (aV c b):=λx o a=>by
 unfold aV at a ⊢;split
 ·rename_i e;rw[if_pos e]at a;cases a
 rename_i e;rw[if_neg e]at a;exact d x o a
theorem qf {h0 h:Heap} {b:Nat} (d:h0.le h) (c:h0 b=none):h0.le (aV h b):=λx o a=>by
 unfold aV;split
 ·rename_i e;rw[e,c]at a;cases a
 exact d x o a
theorem wZ {h a:Heap} {b:Nat} (f:(aV h b).le (aV a b)) (d:a b=h b):h.le a:=λx o c=>by
 by_cases e:x=b
 ·rw[e]at c ⊢;rw[d];exact c
 have:=f x o (by unfold aV;rw[if_neg e];exact c);unfold aV at this;rwa [if_neg e]at this
theorem tZ (h:Heap) (b:Nat) (o:Obj):aV (h.set b o) b=aV h b:=by
 funext x
 unfold aV;by_cases e:x=b
 ·rw[if_pos e,if_pos e]
 rw[if_neg e,if_neg e];simp[Heap.set,e]
theorem kV {P:Program} {f:FuncId} {args:List Value} {h:Heap} {b:Nat} {o:Obj} {R:Value->Heap->Prop} (q:h b=some o) (z:bq P f args (aV h b) R) :
  bq P f args h λv c=>c b=h b/\R v (aV c b):=by
 intro w j;refine(z w (λp s a=>j p s (fk h b p s a))).mono ?_;rintro e G ⟨g,m,i⟩;have u:=j b o q;have C:b < w.heap.size:=ec u;have t:g b=none:=by
  cases a:g b with
  | none=>rfl
  | some x =>
   rcases m.sB b (by rw[a];simp)with d|d
   ·exact absurd (by simp[aV]) d
   omega
 let c:Heap:=λx=>if x=b then h b else g x
 have A:aV c b=g:=by
  funext x
  unfold aV;by_cases e:x=b
  ·rw[if_pos e,e,t]
  rw[if_neg e];simp[c,e]
 have F:cQ h w c G:=by
  refine⟨λx y a=>?_,λx a D=>?_,λx a=>?_,m.size,m.fz,m.out⟩
  ·by_cases e:x=b
   ·subst e;have B:=m.aK x C (by simp[aV]);simp only[c,if_true]at a;rw[B];exact j x y a
   simp only[c,e,if_false]at a;exact m.view x y a
  ·have E:aV h b x=none:=by
    unfold aV;by_cases e:x=b
    ·rw[if_pos e]
    rw[if_neg e];exact D
   exact m.aK x a E
  by_cases e:x=b
  ·subst e;left;rw[q];simp
  simp only[c,e,if_false]at a;rcases m.sB x a with d|d
  ·left;unfold aV at d;rwa [if_neg e]at d
  exact .inr d
 refine⟨c,F,?_⟩;cases e with
 | returned v=>exact⟨by simp[c],by rw[A];exact i⟩
 | panicked H=>exact i.elim
 | outgrown=>exact i.elim
theorem iL {P:Program} {f:FuncId} {args:List Value} {h:Heap} {b:Nat} {o:Obj} {K:Value->Heap->Prop} {E:List PanicEntry->Heap->Prop} {R:Value->Heap->Prop} (d:h b=some o) (e:bq P f args (aV h b) λv a=>(aV h b).le a/\R v a)
  (g:∀ v a,h.le a->R v (aV a b)->K v a):Go.Vc.Call P f args h K E:=aB (kV d e) λv a c=>g v a (wZ c.2.1 c.1) c.2.2
theorem BM {P:Program} {f:FuncId} {args:List Value} {h:Heap} {b:Nat} {o:Obj} {K:Value->Heap->Prop} {E:List PanicEntry->Heap->Prop} {R:Value->Heap->Prop} (d:h b=some o) (e:bq P f args (aV h b) λv a=>(aV h b).le a/\R v a)
  (g:∀ v a,h.le a->R v (aV a b)->K v a):gD P f args h K E:=cP (kV d e) λv a c=>⟨wZ c.2.1 c.1,g v a (wZ c.2.1 c.1) c.2.2⟩
structure fT (h0 h:Heap) (b c:Nat) (A:List cz):Prop where
 le:h0.le h
 fr:h0 b=none
 row:∃ recs,bY 3 h (.slice (some ⟨b,0,none⟩) A.length c) recs [b]/\recs.length=A.length/\∀ i (h1:i < recs.length) (h2:i < A.length),gR (aV h b) recs[i] A[i]
theorem fT.hle {h0 h:Heap} {b c:Nat} {A:List cz} (a:fT h0 h b c A):h0.le (aV h b):=qf a.le a.fr
theorem fT.in {h0 h:Heap} {b c:Nat} {A:List cz} (a:fT h0 h b c A):∃ o,h b=some o:=by
 obtain⟨e,d,_⟩:=a.row;exact d.in b Z
theorem fT.aK {h0 h e:Heap} {b c:Nat} {A:List cz} (a:fT h0 h b c A) (d:h.le e):fT h0 e b c A:=by
 obtain⟨p,j,i,m⟩:=a.row;exact⟨y_ a.le d,a.fr,p,j.aK (cS.of_le d _),i,λo f g=>(m o f g).le (bQ b d)⟩
theorem fT.at {h0 h:Heap} {b c:Nat} {A:List cz} (a:fT h0 h b c A) {i:Nat} (G:i < A.length) :
  ∃ m f o g,dP h b (0+i*3) 3=some [.bool A[i].told,.slice m A[i].locals.length f,.slice o A[i].stack.length g]/\rd h b (0+i*3)=some (.bool A[i].told)/\jL (aV h b) A[i] m o f g /\
   ∀(vs:List Value) (s:cz) (K:Heap->Prop),gR (aV h b) vs s->(∀ e,aV e b=aV h b->fT h0 e b c (A.set i s)->K e)->St h b (0+i*3) vs K:=by
 obtain⟨d,J,I,B⟩:=a.row;have w:i < d.length:=by omega
 have H:d=d.take i++d[i]::d.drop (i+1):=by simp
 have L:bY 3 h (.slice (some ⟨b,0,none⟩) A.length c) (d.take i++d[i]::d.drop (i+1)) [b]:=by rw[<-H];exact J
 obtain⟨S,T,pre,post,X,z,j,M,W,V,R⟩:=L.at;simp only[Z_,v_,Addr.mk.injEq]at z;obtain⟨⟨rfl,_⟩,_,rfl⟩:=z;have q:pre.length=i*3:=by rw[M];simp;omega
 obtain⟨l,k,P,y,x⟩:=B i w G;have f1:=y.len;obtain⟨m,f,rfl,_,_⟩:=f1;have f2:=x.len;obtain⟨o,g,rfl,_,_⟩:=f2;rw[P]at j;refine⟨m,f,o,g,?_,?_,⟨y,x⟩,λvs s K C F=>?_⟩
 ·rw[bA j 3 (0+i*3) (by simp[q])];rw[List.append_assoc,Nat.zero_add,<-q,List.drop_left];rfl
 ·exact cX j (i:=0) O rfl
 have t:vs.length=3:=by obtain⟨_,_,rfl,_⟩:=C;rfl
 refine Bv j (pre++vs++post) (by simp[q,t]<;>omega) (mM (x':=vs) O (by rw[t];rfl)) (λp u D=>?_);have v:aV p b=aV h b:=by rw[u,tZ]
 have N:d.set i vs=d.take i++vs::d.drop (i+1):=by rw[List.set_eq_take_append_cons_drop,if_pos w]
 refine F p v ⟨?_,a.fr,d.set i vs,?_,by simp[I],λQ E e=>?_⟩
 ·rw[u];exact Heap.aT a.le a.fr
 ·rw[N,List.length_set];exact R p vs D t
 rw[v];simp only[List.getElem_set];split
 ·exact C
 exact B Q (by simpa using E) (by simpa using e)
theorem fT.oA {h0 h:Heap} {b c:Nat} {A:List cz} (a:fT h0 h b c A) (u:A.length<=1000):Row 3 gR h (.slice (some ⟨b,0,none⟩) A.length c) A:=by
 obtain⟨C,j,v,w⟩:=a.row;obtain⟨x,⟨d,_⟩|⟨m,o,rest,D,d,t,s,_,_⟩⟩:=j
 ·cases d
 simp only[Z_,v_,Addr.mk.injEq]at d;obtain⟨⟨rfl,_⟩,_,rfl⟩:=d;refine⟨O,_,_,rfl,O,.inr ⟨b,0,rfl,λy E i=>?_⟩⟩;obtain⟨g,rfl⟩:=List.getElem?_eq_some_iff.1 i;obtain⟨z,p,B,q,f,_,e,_⟩:=a.at g;exact⟨_,f,_,_,rfl,bP.le (fk h b) e.1,bP.le (fk h b) e.2⟩
def ua (l:List Int):Nat:=(l.map ku).sum
def m5 (s:cz):Nat:=ua s.locals+ua s.stack
def E9 (s:cz):Nat:=if s.told=true then m5 s else 100
def mu (A:List cz):Nat:=(A.map E9).sum
def m9 (n:Nat) (k:Int) (A:List cz):Prop:=∀ s∈A,s.told=true->mY n k s
theorem Fa:∀ {A:List cz} {i:Nat} (a:i < A.length) (s:cz),mu (A.set i s)+E9 A[i]=mu A+E9 s
 | [],i,a,s=>by simp at a
 | x::A,0,a,s=>by simp[mu];omega
 | x::A,i+1,a,s=>by
  have:=Fa (A:=A) (i:=i) (by simpa using a) s;simp only[mu,List.set_cons_succ,List.map_cons,List.sum_cons,List.getElem_cons_succ]at this ⊢;omega
theorem qg {n:Nat} {k:Int} {A:List cz} (b:m9 n k A) (i:Nat) {s:cz} (c:s.told=true->mY n k s):m9 n k (A.set i s):=λx d a=>by
 rcases List.mem_or_eq_of_mem_set d with h|rfl
 ·exact b x h a
 exact c a
theorem Hv {n:Nat} (a:n<=5) {t:Int} (h:0<=t/\t < 8+(n:Int)):ku t<=10:=by
 unfold ku;split
 ·omega
 split
 ·omega
 split
 ·omega
 split<;>omega
theorem xd {n:Nat} (a:n<=5):∀ {l:List Int},(∀ t∈l,0<=t/\t < 8+(n:Int))->ua l<=l.length*10
 | [],_=>by simp[ua]
 | t::l,h=>by
  have d:=Hv a (h t Z);have b:=xd a (l:=l) (λx c=>h x (by simp[c]));simp only[ua,List.map_cons,List.sum_cons,List.length_cons]at b ⊢;omega
theorem Fb {n:Nat} (b:n<=5) {k:Int} (e:k<=3) {s:cz} (a:mY n k s):m5 s < 100:=by
 have c:=xd b a.mZ;have d:=xd b a.cA;have:=a.loc;have:=a.len;unfold m5;omega
theorem ud {cs:List dB}:∀ {l r:List Int},l.length=r.length->(∀ i (d:i < l.length) (e:i < r.length),iS cs l[i] r[i])->ua r<=ua l/\(cU cs r l=false->ua r < ua l)
 | [],[],_,_=>by simp[ua,cU]
 | [],_::_,h,_=>by simp at h
 | _::_,[],h,_=>by simp at h
 | a::l,b::r,h,hm=>by
  have c:=hm 0 Z Z;simp only[List.getElem_cons_zero]at c;have j:=ud (cs:=cs) (l:=l) (r:=r) (by simpa using h) (λi d e=>hm (i+1) (by simpa using d) (by simpa using e));simp only[ua,List.map_cons,List.sum_cons,cU]at j ⊢;refine⟨by have:=c.2.1;omega,λf=>?_⟩;cases g:dQ cs b a with
  | false=>have:=c.2.2 g;omega
  | true=>rw[g,Bool.true_and]at f;have:=j.2 f;have:=c.2.1;omega
theorem Hw {cs:List dB} {a x:cz} {k:Int} (h:mY cs.length k a) (p:x.told=a.told/\x.locals.length=a.locals.length/\x.stack.length=a.stack.length/\(∀ i (b:i < a.locals.length) (o:i < x.locals.length),iS cs a.locals[i] x.locals[i])/\∀ i (b:i < a.stack.length) (o:i < x.stack.length),iS cs a.stack[i] x.stack[i]) :
  mY cs.length k x/\(oS cs x a=false->m5 x < m5 a):=by
 obtain⟨_,g,d,j,m⟩:=p;have q:=ud g.symm j;have s:=ud d.symm m;refine⟨⟨by rw[g];exact h.loc,λt f=>?_,λt f=>?_,by rw[d];exact h.len⟩,λc=>?_⟩
 ·obtain⟨i,e,rfl⟩:=List.mem_iff_getElem.1 f;exact(j i O e).1
 ·obtain⟨i,e,rfl⟩:=List.mem_iff_getElem.1 f;exact(m i O e).1
 unfold oS at c;rw[decide_eq_true d,Bool.true_and]at c;unfold m5;cases b:cU cs x.locals a.locals with
 | false=>have:=q.2 b;omega
 | true=>rw[b,Bool.true_and]at c;have:=s.2 c;omega
theorem ue (s:cz) (lp d:Option Addr) (e c:Nat) (h:Heap) (a:jL h s lp d e c) (f:s.locals.length<=1000000) (g:s.stack.length<=1000000) :
  bq prog 139 [.agg #[.bool s.told,.slice lp s.locals.length e,.slice d s.stack.length c]] h λv b=>h.le b/\sJ b v s :=
 bq.mono (q9 s.told lp d e c s.locals s.stack h a.1 a.2 f g) λv b m=>by
  obtain⟨o,i,p,j,q,t,rfl,st⟩:=m;exact⟨st.le,o,i,p,j,rfl,(cM st.o1 O (fy a.1)).2,(cM st.o2 O (fy a.2)).2⟩
theorem sJ.of {h:Heap} {d e:Option Addr} {a b:Nat} {s:cz} (c:jL h s d e a b):gR h [.bool s.told,.slice d s.locals.length a,.slice e s.stack.length b] s:=⟨_,_,rfl,c.1,c.2⟩
theorem AG (us:List Value) (u:aI) (k:Int) (h0 h:Heap) (b c:Nat) (A:List cz) (e:Int) (s:cz) (lp P:Option Addr) (Q N:Nat) (hu:dn h0 us u) (ok:bX u.ak) (hk:k<=3) (a:fT h0 h b c A) (M:m9 u.ak.length k A) (wX:0<=e/\e < A.length) (SM:A.length<=1000) (C:mY u.ak.length k s) (m:s.told=true) (hI:jL (aV h b) s lp P Q N) :
  bq prog 264 [.agg ⟨us⟩,.slice (some ⟨b,0,none⟩) A.length c,.int .i64 e,.agg #[.bool s.told,.slice lp s.locals.length Q,.slice P s.stack.length N]] h
   λv t=>(aV h b).le (aV t b)/\∃ o f,v=.bool o/\fT h0 t b c f/\m9 u.ak.length k f/\f.length=A.length/\mu f<=mu A/\(o=true->mu f < mu A):=by
 obtain⟨R,J,ad,aa,rfl,hcs,lR,jq,hl2⟩:=hu.form;have SN:eP (aV h b) (.slice R u.ak.length J) u.ak:=hcs.le a.hle (λ_ _ w=>w.le a.hle);have sH:=ok.2.1;obtain⟨ab,Aq⟩:=a.in;have G:e.toNat < A.length:=by omega
 have IM:=C.loc;have YD:=C.len;have m0:=ue s lp P Q N (aV h b) hI O O;obtain⟨p1,T,p2,V,K,W,e3,put⟩:=a.at G;have Fc:=x_ G;have uQ:=λx=>Fa G x;have O0:=M _ Fc;have same:∀ t,h.le t->(aV h b).le (aV t b)/\∃ o f,Value.bool false=.bool o/\fT h0 t b c f/\m9 u.ak.length k f/\f.length=A.length/\mu f<=mu A/\(o=true->mu f < mu A):=λt hl=>⟨bQ b hl,false,A,rfl,a.aK hl,M,rfl,Nat.le_refl _,λw=>by cases w⟩
 refine bE ax func264 Ru U rfl ?_;conv=>whnf
 refine ay ?_;conv=>whnf
 refine ptr ?_;conv=>whnf
 refine ld W ?_;conv=>whnf
 apply dG<;>intro L;all_goals conv=>whnf
 ·refine iL Aq m0 (λv j i d=>?_);refine d.elim λy d=>d.elim λd1 d=>d.elim λz d=>d.elim λd2 d=>?_;have Y:=d.1;subst Y;have I:=d.2;have S:=a.aK i;refine(S.at G).elim λ_ g=>g.elim λ_ g=>g.elim λ_ g=>g.elim λ_ g=>?_;have CS:=g.2.2.2;conv=>whnf
  repeat' ((first|refine ay ?_|refine av ?_|refine ptr ?_)<;>conv=>whnf)
  refine CS _ s _ (sJ.of I) (λp F D=>?_);conv=>whnf
  have hm:=uQ s;have X:=Fb sH hk C;have K:E9 s=m5 s:=by unfold E9;rw[if_pos m]
  have W:E9 A[e.toNat]=100:=by unfold E9;rw[if_neg (by rw[L];simp)]
  refine⟨by rw[F];exact bQ b i,true,A.set e.toNat s,rfl,D,qg M _ (λ_=>C),Z,O,λ_=>O⟩
 have q:=O0 L;have Nu:=CT R u.ak.length J u.ak A[e.toNat] s p1 p2 lp P T V Q N (aV h b) SN ok e3 hI (by have:=q.loc;omega) (by have:=q.loc;omega) (by have:=q.len;omega) q.mZ q.cA C.mZ C.cA;have rest:∀(j:Heap) (x:cz) (y z:Option Addr) (d1 d2:Nat),h.le j->jL (aV j b) x y z d1 d2->IX u.ak A[e.toNat] x->x.told=true->mY u.ak.length k x/\Pure prog 138 [.slice R u.ak.length J,.agg #[.bool x.told,.slice y x.locals.length d1,.slice z x.stack.length d2],.agg #[.bool A[e.toNat].told,.slice p1 A[e.toNat].locals.length T,.slice p2 A[e.toNat].stack.length V]] j (.bool (oS u.ak x A[e.toNat]))/\(oS u.ak x A[e.toNat]=false->m5 x < m5 A[e.toNat]):=λj x y z d1 d2 i w H YE=>by
  rcases H with rfl|H
  ·cases YE
  have jm:=Hw q H;have E:=jm.1;exact⟨E,wY R u.ak.length J u.ak x A[e.toNat] y z p1 p2 d1 d2 T V j (hcs.le (y_ a.le i) (λ_ _ w=>w.le (y_ a.le i))) ok (w.le (fk j b)) (e3.le (y_ (fk h b) i)) O (λB m=>(E.mZ B m).2) (λB m=>(E.cA B m).2) (λB m=>(q.mZ B m).2) (λB m=>(q.cA B m).2),jm.2⟩
 repeat' ((first|exact trivial|apply T_|refine ay ?_|refine ptr ?_|refine dZ K ?_|refine BM Aq Nu (λv j i d=>?_))<;>conv=>whnf)
 all_goals
  refine d.elim λx d=>?_;have H:=d.2;refine d.1.elim λy d=>d.elim λd1 d=>d.elim λz d=>d.elim λd2 d=>?_;have Y:=d.1;subst Y;have I:=d.2;have S:=a.aK i;have Vg:=rest j x y z d1 d2 i I H;have hsx:=uQ x;refine(S.at G).elim λ_ g=>g.elim λ_ g=>g.elim λ_ g=>g.elim λ_ g=>?_;have CS:=g.2.2.2;have e4:dP j b (0+e.toNat*3) 3=_:=eT i _ _ _ K;conv=>whnf
  generalize OL:x.told=xt at Vg I ⊢;cases xt
  ·conv=>whnf
   repeat' ((first|exact trivial|exact same _ i|apply T_)<;>conv=>whnf)
  have rs:=Vg rfl;have E:=rs.1;have oh:=rs.2.1;have X:=rs.2.2;generalize hvb:oS u.ak x A[e.toNat]=vb at oh X;have fin:∀ p,aV p b=aV j b->fT h0 p b c (A.set e.toNat x)->vb=false->(aV h b).le (aV p b)/\∃ o f,Value.bool true=.bool o/\fT h0 p b c f/\m9 u.ak.length k f/\f.length=A.length/\mu f<=mu A/\(o=true->mu f < mu A):=λp F D hf=>by
   have K:E9 x=m5 x:=by unfold E9;rw[if_pos OL]
   have W:E9 A[e.toNat]=m5 A[e.toNat]:=by unfold E9;rw[if_pos L]
   have:=X hf;exact⟨by rw[F];exact bQ b i,true,A.set e.toNat x,rfl,D,qg M _ (λ_=>E),Z,O,λ_=>O⟩
  conv=>whnf
  repeat' ((first|exact trivial|apply T_|refine ay ?_|refine ptr ?_|refine dZ e4 ?_|refine aP oh ?_)<;>conv=>whnf)
  all_goals
   cases vb
   ·conv=>whnf
    refine ay ?_;conv=>whnf
    refine ptr ?_;conv=>whnf
    refine CS _ x _ (OL ▸ sJ.of I) (λp F D=>?_);conv=>whnf
    exact fin p F D rfl
   conv=>whnf
   exact same _ i
def dY (n:Nat) (k:Int) (s:cz) (r:Option cz):Prop:=∀ x,r=some x->mY n k x/\x.told=s.told
theorem dY.none {n:Nat} {k:Int} {s:cz}:dY n k s none:=λ_ h=>by cases h
theorem dY.self {n:Nat} {k:Int} {s:cz} (a:mY n k s):dY n k s (some s):=λx h=>by cases h;exact⟨a,rfl⟩
theorem dY.pop {n:Nat} {k:Int} {s:cz} (a:mY n k s) (cs:List dB) (l:List Int):dY n k s (fe cs s l):=λx h=>by
 unfold fe at h;split at h
 ·cases h
  exact⟨⟨a.loc,a.mZ,λt b=>a.cA t (List.mem_of_mem_take b),by have:=a.len;simp;omega⟩,rfl⟩
 cases h
theorem dY.push {n:Nat} {k:Int} {s:cz} {r:Option cz} (c:dY n k s r) {t:Int} (d:0<=t/\t < 8+(n:Int)):dY n k s (eS r t):=λx h=>by
 unfold eS at h;cases r with
 | none=>cases h
 | some y =>
  have:=c y rfl;simp only at h;split at h
  ·cases h
  rename_i e;cases h
  have b:=this.1;refine⟨⟨b.loc,b.mZ,λz a=>?_,by simp;omega⟩,this.2⟩;rcases u_.1 a with a|a
  ·exact b.cA z a
  rw[V_.1 a];exact d
theorem uf {n:Nat} {l:List Int} (a:∀ t∈l,0<=t/\t < 8+(n:Int)) (i:Nat):0<=l.getD i 0/\l.getD i 0 < 8+(n:Int):=by
 by_cases h:i < l.length
 ·have e:l.getD i 0=l[i]:=by simp[h]
  rw[e];exact a _ (x_ h)
 have e:l.getD i 0=0:=by rw[S_,List.getElem?_eq_none O];rfl
 rw[e];omega
theorem Fe {n:Nat} {k:Int} {s:cz} (a:mY n k s) (cs:List dB) (i:dc):dY n k s (kr cs i s):=by
 unfold kr;repeat' split
 all_goals first
  | exact dY.none
  | exact dY.self a
  | exact dY.pop a _ _
  | exact(dY.self a).push O
  | exact(dY.pop a _ _).push O
  | exact(dY.self a).push (uf a.mZ _)
  | exact(dY.self a).push (a.cA _ (List.mem_of_getLast? (by assumption)))
  | skip
 intro x d;cases d
 rename_i t c;refine⟨⟨by simpa using a.loc,λz b=>?_,λz b=>a.cA z ((List.dropLast_sublist _).mem b),by have:=a.len;simp;omega⟩,rfl⟩;rcases List.mem_or_eq_of_mem_set b with b|rfl
 ·exact a.mZ z b
 exact a.cA _ (List.mem_of_getLast? c)
theorem Ff {k:Int} {s:cz} {cs:List dB} (ok:bX cs) (a:mY cs.length k s) (i:dc) (j:12<=i.kind/\i.kind<=19) (b:i.kind=12\/i.kind=17\/i.kind=18\/i.kind=19->0<=i.a/\i.a < cs.length):dY cs.length k s (oR cs i s):=by
 have h:=ok.1;have c:0<=fS i.a/\fS i.a < 8+(cs.length:Int):=by unfold fS;split<;>omega
 have d:0<=bW i.a/\bW i.a < 8+(cs.length:Int):=by unfold bW;split<;>omega
 unfold oR;split
 ·exact(dY.self a).push (by have:=b (.inl (by assumption));omega)
 split
 ·exact(dY.pop a _ _).push c
 split
 ·refine dY.push ?_ O;split
  ·rename_i r e;rw[<-e];exact dY.pop a _ _
  exact dY.pop a _ _
 split
 ·exact(dY.pop a _ _).push d
 split
 ·exact dY.pop a _ _
 split
 ·have g:=b (.inr (.inl (by assumption)));refine(dY.pop a _ _).push (uf (λt f=>?_) _);have:=dS (eM ok (i.a.toNat+1) O g.2 t f);omega
 split
 ·exact dY.pop a _ _
 exact(dY.pop a _ _).push (by have:=b (.inr (.inr (.inr O)));omega)
theorem nM {u:aI} {m:bT} {k:Int} {s:cz} {i:dc} (c:AE u) (a:mY u.ak.length k s) (d:dw u m i):dY u.ak.length k s (stepT u m i s):=by
 have ok:=c.1;have x:=ok.1;have t:(i.kind=12\/i.kind=17\/i.kind=18\/i.kind=19->0<=i.a/\i.a < u.ak.length)/\(i.kind=17\/i.kind=18->0<=i.b/\i.b < (bV u.ak i.a).length):=d.iJ;unfold stepT;split
 ·exact dY.pop a _ _
 split
 ·rename_i h;have e:¬(if i.kind=21 then find u i.a i.b else i.a) < 0->0<=(if i.kind=21 then find u i.a i.b else i.a)/\(if i.kind=21 then find u i.a i.b else i.a) < u.methods.length:=by
   obtain⟨v,f,g⟩:=i;simp only at h ⊢;split
   ·have:=eD u f g;omega
   have j:v=20:=by omega
   subst j;have:=(aS (p:=7) (q:=0) rfl).1 d;simp[bh]at this;omega
  unfold qe;generalize (if i.kind=21 then find u i.a i.b else i.a)=w at e;generalize (if i.kind=21 then [8+i.a]else [])=y;simp only;by_cases b:w < 0
  ·rw[if_pos b];exact dY.none
  rw[if_neg b];have o:=c.bz (e b);have:=dS o.2.2;exact(dY.pop a _ _).push O
 split
 ·exact Ff ok a i (by assumption) t.1
 exact Fe a _ _
theorem dw.jump {u:aI} {m:bT} {i:dc} (b:dw u m i) (a:cV i=true):0<=i.a/\i.a < m.code.length:=by
 obtain⟨k,d,e⟩:=i;unfold cV at a;have f:8<=k/\k<=11:=by simpa using a
 have c:k=8\/k=9\/k=10\/k=11:=by omega
 rcases c with rfl|rfl|rfl|rfl;all_goals
  have:=(aS (p:=4) (q:=0) rfl).1 b;simp[bh]at this;exact this.1
theorem ru {n:Nat} {k c:Int} {s:cz} (a:mY n k s) (d:0<=c/\c < n):mY n k (bO c s) :=
 ⟨a.loc,a.mZ,λt b=>by rw[V_.1 b];omega,by simp[bO]⟩
def Tryz.SO:Fs:={L:=[2,3,5],LL:=[24,26],cq:=[(6,[0,2,4,8,1,3,5,6,7,9])],M:=[170]}
def Tryz.SP:Fs:={L:=[3,4,6,109,132],LL:=[31,34,48,58,67,71,74,99,126,129],cq:=[(9,[0,2,3,1,4,5,6,7,8]),(11,[0,2,3,1,4,5,6,7]),(13,[0,2,3,4,7,1,5,6,8,9,10,11]),(21,[0,2,4,6,8,1,3,5,7,9,10,11,12,13,14]),(27,[0,2,3,1,4,5,6,7,8,9,10])],trees:=[(7,(.one 0 (.one 2 (.one 3 (.one 5 (.one 9 (.one 1 (.one 4 (.one 6 (.one 7 (.alt 8 (.one 10 (.one 11 D_)) (.alt 10 (.one 8 (.one 11 D_)) .kA))))))))))))],M:=[43,118,119]}
def Tryz.SQ:Fs:={L:=[6,7,22,44,59,66],LL:=[18],cq:=[(5,[0,2,3,1,4,5,6,7,8])],M:=[119]}
def Tryz.SR:Fs:={L:=[6,35,40],LL:=[31],cq:=[(10,[0,2,3,1,4,5,6,7,8])],M:=[174]}
def Tryz.SS:Fs:={L:=[9,25,107],LL:=[63,80,89,99],cq:=[(17,[0,1,5,2,3,4,6,7,8,9,10]),(22,[0,1,2,3,4,5,6,7,8,9,11,12,10,13,14,15,16,17,18,19,21,22,20,23,24,25,26])],M:=[43]}
def Tryz.SU:Fs:={L:=[39,44,67],LL:=[43],trees:=[(10,(.one 0 (.one 1 (.one 2 (.one 3 (.one 4 (.one 5 (.one 7 (.one 8 (.alt 6 (.one 9 (.one 10 (.one 11 (.one 12 C_)))) (.alt 9 (.one 10 (.one 11 (.one 12 (.one 6 C_)))) .kA))))))))))),(14,(.one 0 (.one 1 (.one 2 (.one 4 (.one 5 (.one 7 (.one 8 (.one 10 (.one 11 (.alt 3 (.alt 6 (.alt 9 D_ (.alt 12 (.one 9 F_) .kA)) (.alt 9 (.alt 6 D_ (.alt 12 (.one 6 F_) .kA)) (.alt 12 B_ .kA))) (.alt 6 (.alt 3 (.alt 9 D_ (.alt 12 (.one 9 F_) .kA)) (.alt 9 (.alt 3 D_ (.alt 12 (.one 3 F_) .kA)) (.alt 12 (.alt 3 (.one 9 F_) (.alt 9 (.one 3 F_) .kA)) .kA))) (.alt 9 (.alt 3 (.alt 6 D_ (.alt 12 (.one 6 F_) .kA)) (.alt 6 (.alt 3 D_ (.alt 12 (.one 3 F_) .kA)) (.alt 12 (.alt 3 (.one 6 F_) (.alt 6 (.one 3 F_) .kA)) .kA))) (.alt 12 (.alt 3 B_ (.alt 6 (.alt 3 (.one 9 F_) (.alt 9 (.one 3 F_) .kA)) (.alt 9 (.alt 3 (.one 6 F_) (.alt 6 (.one 3 F_) .kA)) .kA))) .kA))))))))))))))],M:=[43]}
def Tryz.SV:Fs:={L:=[4,5,22],LL:=[18],cq:=[(5,[0,2,3,1,4,5,6,7,8])],M:=[174]}
def Tryz.SW:Fs:={L:=[4,5,10,12,13],LL:=[39,41,45,48,49,50,66,72,75,80],cq:=[(9,[0,1,3,2,4,5,6,7,9,10,8,11,12,13,14,15,16]),(14,[0,2,1,3,4,5,6,8,9,11,7,10,12,13,15,14,16,17])],M:=[264]}
structure Grown (h0 h:Heap) (b c n:Nat) (k:Int) (A:List cz) (h':Heap) (A':List cz) (ch:Bool):Prop where
 hle:(aV h b).le (aV h' b)
 all:fT h0 h' b c A'
 val:m9 n k A'
 len:A'.length=A.length
 mu:mu A'<=mu A
 less:ch=true->Go.Proofs.mu A' < Go.Proofs.mu A
theorem Grown.start {h0 h:Heap} {b c n:Nat} {k:Int} {A:List cz} (a:fT h0 h b c A) (d:m9 n k A):Grown h0 h b c n k A h A false:=⟨z_ _,a,d,rfl,Nat.le_refl _,λe=>by cases e⟩
theorem Grown.trans {h0 h i j:Heap} {b c n:Nat} {k:Int} {A e f:List cz} {x y:Bool} (g:Grown h0 h b c n k A i e x) (a:Grown h0 i b c n k e j f y):Grown h0 h b c n k A j f (x||y) :=
 ⟨y_ g.hle a.hle,a.all,a.val,by rw[a.len,g.len],Nat.le_trans a.mu g.mu,λd=>by
  have m:=g.mu;have o:=a.mu;rcases(by simpa using d:x=true\/y=true)with d|d
  ·have:=g.less d;omega
  have:=a.less d;omega⟩
theorem Grown.more {h0 h d e:Heap} {b c n:Nat} {k:Int} {A a:List cz} {x:Bool} (g:Grown h0 h b c n k A d a x) (f:d.le e):Grown h0 h b c n k A e a x :=
 ⟨y_ g.hle (bQ b f),g.all.aK f,g.val,g.len,g.mu,g.less⟩
theorem nc (i:List Value) (u:aI) (k:Int) (h0 m h:Heap) (b c:Nat) (j A:List cz) (x:Bool) (a:Int) (s:cz) (v:Value) (n:Nat) (G:A.length=n) (K:dn h0 i u) (ok:bX u.ak) (E:k<=3) (g:Grown h0 m b c u.ak.length k j h A x) (C:0<=a/\a < A.length) (F:A.length<=1000) (I:mY u.ak.length k s) (J:s.told=true) (H:sJ (aV h b) v s) :
  bq prog 264 [.agg ⟨i⟩,.slice (some ⟨b,0,none⟩) n c,.int .i64 a,v] h
   λv f=>∃ d e,v=.bool d/\Grown h0 m b c u.ak.length k j f e (x||d)/\(aV h b).le (aV f b):=by
 subst G;obtain⟨M,q,N,t,rfl,B⟩:=H;refine bq.mono (AG i u k h0 h b c A a s M N q t K ok E g.all g.val C F I J B) λv f D=>?_;obtain⟨o,d,e,rfl,p,L,w,y,z⟩:=D;exact⟨d,e,rfl,g.trans ⟨o,p,L,w,y,z⟩,o⟩
theorem sJ.le {h a:Heap} (f:h.le a) {v:Value} {s:cz} (g:sJ h v s):sJ a v s:=by
 obtain⟨i,b,j,c,e,d⟩:=g;exact⟨i,b,j,c,e,d.le f⟩
theorem yW (us ms:List Value) (u:aI) (m:bT) (h0 h:Heap) (b c:Nat) (A:List cz) (f:Int) (hu:dn h0 us u) (hm:dz h0 ms m) (hV:AE u) (T:KC u m) (a:fT h0 h b c A) (hA:m9 u.ak.length m.locals A) (SM:A.length=m.code.length) (wX:0<=f/\f < A.length) :
  bq prog 244 [.agg ⟨us⟩,.agg ⟨ms⟩,.slice (some ⟨b,0,none⟩) A.length c,.int .i64 f] h
   λv W=>∃ B A',v=.bool B/\Grown h0 h b c u.ak.length m.locals A W A' B:=by
 have tH:=hu;have SX:=hm;have ok:=hV.1;have sH:=ok.2.1;have si:=T.head.2.2.2.2.1;have su:=T.len.2;obtain⟨ad,cc,ae,ab,rfl,hcs,lR,jq,hl2⟩:=hu.form;obtain⟨p1,c1,p2,c2,p3,c3,p4,c4,rfl,k1,k2,k3,k4,k5,k6,k7,k8,d1,d2,d3,d4⟩:=hm.form;have hi:f.toNat < A.length:=by omega
 have Fc:=x_ hi;obtain⟨lp,lc,kp,kc,M,N,V,_⟩:=a.at hi;have O0:=hA _ Fc;generalize q:A[f.toNat]=x at M N V O0;clear q;have g0:=Grown.start a hA;have yX:f.toNat < m.code.length:=by omega
 obtain⟨bi,oi,vi,H,f1,f2,f3⟩:=k6.get yX;have tq:m.code.getD f.toNat dR=m.code[f.toNat]:=by simp[yX]
 have O1:=T.code _ (x_ yX);have xh:∀ d:Heap,h0.le d->(q:mY u.ak.length m.locals x)->jL d x lp kp lc kc->_:=λd hl q hI=>rj _ _ u m f x lp kp lc kc d (tH.le hl) (SX.le hl) hV hI q si O (by rw[tq];exact O1) T.head.2.2.1;rw[tq]at xh;have Y:=λhj=>O1.jump hj;have Nv:=λq:mY u.ak.length m.locals x=>nM (m:=m) hV q O1;subst f2;generalize m.code[f.toNat]=ah at f1 O1 xh Y Nv;obtain⟨Q,L,P⟩:=ah;simp only at f1 Y;refine bE ax func244 SW U rfl ?_;conv=>whnf
 repeat' ((first|refine ld N ?_|refine ay ?_|refine av ?_|refine ptr ?_)<;>conv=>whnf)
 apply dG<;>intro aa;all_goals conv=>whnf
 ·exact⟨false,A,rfl,g0⟩
 have q:=O0 aa;have YF:=xh (aV h b) a.hle q V;repeat' ((first|refine dZ M ?_|refine ay ?_|refine av ?_|refine ptr ?_)<;>conv=>whnf)
 refine eF [2,3,4,5,9,10,11] [4,5,10] (λz:Nat × Heap × List cz × Bool=>z.1<=m.catches.length/\Grown h0 h b c u.ak.length m.locals A z.2.1 z.2.2.1 z.2.2.2) (λz=>m.catches.length-z.1)
  (λz=>([.v (.slice (some ⟨b,0,none⟩) A.length c),.v (.int .i64 f),.l 4 0,.l 5 0,.v (.bool z.2.2.2),.l 10 0,.v (.int .i64 z.1)],
   [some [.slice ad u.ak.length cc,.slice ae u.methods.length ab],some [.int .i64 m.cls,.int .i64 m.eu,.slice p1 m.args.length c1,.int .i64 m.out,.int .i64 m.locals,.slice p2 m.code.length c2,.slice p3 m.aF.length c3,.slice p4 m.catches.length c4],some [.bool x.told,.slice lp x.locals.length lc,.slice kp x.stack.length kc]],z.2.1))
  (0,h,A,false) ⟨O,g0⟩ rfl ?_
 rintro⟨i,X,I,j⟩ ⟨Nw,s⟩;simp only at Nw s ⊢;have Nq:=s.len;conv=>whnf
 apply aC<;>intro g2;all_goals conv=>whnf
 ·have mC:i < m.catches.length:=by omega
  obtain⟨bb,off,vs,AH,w1,w2,w3⟩:=k8.get mC;subst w2;have G5:=T.cat.2 _ (x_ mC);generalize m.catches[i]=ct at w1 w3 G5;obtain⟨lo,LZ,to,cls⟩:=ct;obtain⟨⟨Nx,Ny,Nz,SY⟩,⟨NA,NB⟩,⟨O2,O3⟩,_⟩:=G5;simp only at w1 Nx Ny Nz SY NA NB O2 O3;have SZ:h0.le X:=s.all.le;have xj:=eT SZ _ _ _ w1;repeat' ((first|refine aL AH ?_|refine dZ xj ?_|refine ay ?_|refine av ?_|refine ptr ?_)<;>conv=>whnf)
  have G:=λd=>dW f lo (LZ-1) d;have NC:=ru q ⟨O2,O3⟩;obtain⟨ag,Aq⟩:=s.all.in;have S0:=m4 lo LZ to cls x lp kp lc kc (aV X b) (V.le s.hle) (by have:=q.loc;omega) O;generalize decide (lo<=f/\f<=LZ-1)=ND at G;cases ND
  ·repeat' ((first|exact trivial|apply T_|refine av ?_|refine aP (G _) ?_)<;>conv=>whnf)
   all_goals exact cL (i+1,X,I,j) ⟨by simp only;omega,s⟩ (by simp only;omega) rfl
  repeat' ((first|exact trivial|apply T_|refine av ?_|refine aP (G _) ?_|refine BM Aq S0 (λv g R e=>?_))<;>conv=>whnf)
  all_goals
   have E:=s.more R;refine aB (nc _ u m.locals h0 h g b c A I j to (bO cls x) _ _ Nq tH ok si E O O NC rfl e) (λv h8 d=>?_);refine d.elim λB d=>d.elim λA8 d=>?_;have o:=d.1;subst o;have w:=d.2.1;cases B
   ·conv=>whnf
    refine av ?_;conv=>whnf
    exact cL (i+1,h8,A8,j) ⟨by simp only;omega,by simpa using w⟩ (by simp only;omega) rfl
   conv=>whnf
   refine av ?_;conv=>whnf
   exact cL (i+1,h8,A8,true) ⟨by simp only;omega,by simpa using w⟩ (by simp only;omega) rfl
 obtain⟨ag,Aq⟩:=s.all.in;have pS:=xh (aV X b) s.all.hle q (V.le s.hle);have Vh:=Nv q;generalize stepT u m ⟨Q,L,P⟩ x=res at pS Vh;refine iL Aq pS (λv G l6 e=>?_);have J:=s.more l6;have Fg:=eT J.all.le _ _ _ f1;have LF:=λd=>hY Q L P d;have K:=λd=>kU Q L P d;cases res with
 | none =>
  refine e.elim λa1 e=>e.elim λq1 e=>e.elim λn1 e=>e.elim λM e=>e.elim λq2 e=>e.elim λn2 e=>e.elim λN o=>?_;subst o;conv=>whnf
  exact⟨j,I,rfl,J⟩
 | some y =>
  have S1:=Vh y rfl;have Vi:=S1.2.trans aa;have YG:=J.len;refine e.elim λq1 e=>e.elim λM e=>e.elim λq2 e=>e.elim λN e=>?_;have o:=e.1;subst o;have YH:=e.2;have O4:sJ (aV G b) (.agg #[.bool y.told,.slice q1 y.locals.length M,.slice q2 y.stack.length N]) y:=⟨_,_,_,_,rfl,YH⟩
  generalize cV ⟨Q,L,P⟩=af at LF Y;generalize eo ⟨Q,L,P⟩=en at K;have last:∀(g:Heap) (p:List cz) (x7:Bool),Grown h0 h b c u.ak.length m.locals A g p x7->(aV G b).le (aV g b)->(f+1 < m.code.length->bq prog 264 [.agg ⟨[.slice ad u.ak.length cc,.slice ae u.methods.length ab]⟩,.slice (some ⟨b,0,none⟩) A.length c,.int .i64 (f+1),.agg #[.bool y.told,.slice q1 y.locals.length M,.slice q2 y.stack.length N]] g λv W=>∃ B A',v=.bool B/\Grown h0 h b c u.ak.length m.locals A W A' (x7||B)/\(aV g b).le (aV W b))/\dP g bi (oi+f.toNat*3) 3=some [.int .i64 Q,.int .i64 L,.int .i64 P]:=λg p x7 E R=>⟨λhlt=>by
   have YI:=E.len;exact nc _ u m.locals h0 h g b c A p x7 (f+1) y _ _ YI tH ok si E O O S1.1 Vi (O4.le R),eT E.all.le _ _ _ f1⟩
  have r1:=aJ Fg (i:=1) rfl;conv=>whnf
  cases af
  ·repeat' ((first|exact trivial|apply T_|refine ay ?_|refine aL H ?_|refine dZ Fg ?_|refine aP (LF _) ?_)<;>conv=>whnf)
   all_goals
    have t:=last G I j J (z_ _);cases en
    ·conv=>whnf
     repeat' ((first|refine aL H ?_|refine dZ t.2 ?_|refine au (K _) ?_|refine ay ?_|refine av ?_|refine ptr ?_)<;>conv=>whnf)
     apply aC<;>intro F;all_goals conv=>whnf
     ·repeat' ((first|refine ay ?_|refine av ?_|refine ptr ?_)<;>conv=>whnf)
      refine aB (t.1 F) (λv h9 d=>?_);refine d.elim λS d=>d.elim λC d=>?_;have o:=d.1;subst o;have D:=d.2.1;cases S
      ·conv=>whnf
       exact⟨j,C,rfl,by simpa using D⟩
      conv=>whnf
      exact⟨true,C,rfl,by simpa using D⟩
     exact⟨j,I,rfl,J⟩
    conv=>whnf
    repeat' ((first|refine aL H ?_|refine dZ t.2 ?_|refine au (K _) ?_|refine ay ?_|refine av ?_|refine ptr ?_)<;>conv=>whnf)
    exact⟨j,I,rfl,J⟩
  have hj:=Y rfl;repeat' ((first|exact trivial|apply T_|refine ay ?_|refine aL H ?_|refine dZ Fg ?_|refine ld r1 ?_|refine aP (LF _) ?_)<;>conv=>whnf)
  all_goals
   refine aB (nc _ u m.locals h0 h G b c A I j L y _ _ YG tH ok si J O O S1.1 Vi O4) (λv g d=>?_);refine d.elim λB d=>d.elim λp d=>?_;have o:=d.1;subst o;have E:=d.2.1;have R:=d.2.2;cases B
   ·have w:Grown h0 h b c u.ak.length m.locals A g p j:=by simpa using E
    conv=>whnf
    have t:=last g p j w R;cases en
    ·conv=>whnf
     repeat' ((first|refine aL H ?_|refine dZ t.2 ?_|refine au (K _) ?_|refine ay ?_|refine av ?_|refine ptr ?_)<;>conv=>whnf)
     apply aC<;>intro F;all_goals conv=>whnf
     ·repeat' ((first|refine ay ?_|refine av ?_|refine ptr ?_)<;>conv=>whnf)
      refine aB (t.1 F) (λv h9 d=>?_);refine d.elim λS d=>d.elim λC d=>?_;have o:=d.1;subst o;have D:=d.2.1;cases S
      ·conv=>whnf
       exact⟨j,C,rfl,by simpa using D⟩
      conv=>whnf
      exact⟨true,C,rfl,by simpa using D⟩
     exact⟨j,p,rfl,w⟩
    conv=>whnf
    repeat' ((first|refine aL H ?_|refine dZ t.2 ?_|refine au (K _) ?_|refine ay ?_|refine av ?_|refine ptr ?_)<;>conv=>whnf)
    exact⟨j,p,rfl,w⟩
   have w:Grown h0 h b c u.ak.length m.locals A g p true:=by simpa using E
   conv=>whnf
   have t:=last g p true w R;cases en
   ·conv=>whnf
    repeat' ((first|refine aL H ?_|refine dZ t.2 ?_|refine au (K _) ?_|refine ay ?_|refine av ?_|refine ptr ?_)<;>conv=>whnf)
    apply aC<;>intro F;all_goals conv=>whnf
    ·repeat' ((first|refine ay ?_|refine av ?_|refine ptr ?_)<;>conv=>whnf)
     refine aB (t.1 F) (λv h9 d=>?_);refine d.elim λS d=>d.elim λC d=>?_;have o:=d.1;subst o;have D:=d.2.1;cases S
     ·conv=>whnf
      exact⟨true,C,rfl,by simpa using D⟩
     conv=>whnf
     exact⟨true,C,rfl,by simpa using D⟩
    exact⟨true,p,rfl,w⟩
   conv=>whnf
   repeat' ((first|refine aL H ?_|refine dZ t.2 ?_|refine au (K _) ?_|refine ay ?_|refine av ?_|refine ptr ?_)<;>conv=>whnf)
   exact⟨true,p,rfl,w⟩
def bM (m:bT) (i:Int):dc:=m.code.getD i.toNat dR
def gu (m:bT) (i:Int):Bool:=(decide (0 < i)&&eo (bM m (i-1)))||m.code.any (λx=>cV x&&decide (x.a=i))||m.catches.any (λc=>decide (c.to=i))
theorem cI {a:Type} {l:List a} {d:a} {i:Nat} (h:i < l.length):l.getD i d=l[i]:=by simp[h]
theorem xk {a:Type} {l:List a} {p:a->Bool} {i:Nat} (b:i < l.length) (h:p l[i]=true):l.any p=true:=List.any_eq_true.2 ⟨_,x_ b,h⟩
theorem any_none {b:Type} {l:List b} {p:b->Bool} (h:∀ j (a:j < l.length),p l[j]=false):l.any p=false:=by
 rw[List.any_eq_false];intro x c;obtain⟨j,a,rfl⟩:=List.mem_iff_getElem.1 c;rw[h j a];simp
theorem yY (X:List Value) (m:bT) (a:Int) (h:Heap) (hm:dz h X m) (wX:0<=a/\a < m.code.length) :
  Pure prog 245 [.agg ⟨X⟩,.int .i64 a] h (.bool (gu m a)):=by
 obtain⟨I,E,A,F,J,G,B,H,rfl,k1,k2,k3,k4,k5,T,k7,V,d1,d2,d3,d4⟩:=hm.form;have C:gu m a=true->Value.bool true=.bool (gu m a):=λq=>by rw[q]
 have Y:gu m a=false->Value.bool false=.bool (gu m a):=λq=>by rw[q]
 have c:(decide (0 < a)&&eo (bM m (a-1)))=false->gu m a=(m.code.any (λx=>cV x&&decide (x.a=a))||m.catches.any (λaa=>decide (aa.to=a))):=λq=>by unfold gu;rw[q,Bool.false_or]
 have first:(decide (0 < a)&&eo (bM m (a-1)))=true->gu m a=true:=λq=>by unfold gu;rw[q,Bool.true_or,Bool.true_or]
 have S:∀ {i:Nat} (o:i < m.code.length),∃ f g,A=some ⟨f,g,none⟩/\dP h f (g+i*3) 3=some [.int .i64 m.code[i].kind,.int .i64 m.code[i].a,.int .i64 m.code[i].b]:=λo=>by
  obtain⟨f,g,vi,e,f1,f2,f3⟩:=T.get o;subst f2;exact⟨f,g,e,f1⟩
 have W:∀ {i:Nat} (o:i < m.catches.length),∃ f g,B=some ⟨f,g,none⟩/\rd h f (g+i*4+2)=some (.int .i64 m.catches[i].to):=λo=>by
  obtain⟨f,g,vi,e,f1,f2,f3⟩:=V.get o;subst f2;exact⟨f,g,e,aJ f1 (i:=2) rfl⟩
 clear k5 T k7 V;refine gF ax func245 Rp U rfl ?_;conv=>whnf
 apply aC<;>intro M;all_goals conv=>whnf
 ·have o:(a-1).toNat < m.code.length:=by omega
  obtain⟨f,g,e,f1⟩:=S o;have Q:=kU m.code[(a-1).toNat].kind m.code[(a-1).toNat].a m.code[(a-1).toNat].b h;have NF:bM m (a-1)=m.code[(a-1).toNat]:=cI o;rw[NF]at c first;rw[decide_eq_true M,Bool.true_and]at c first;change Pure _ _ _ _ (.bool (eo m.code[(a-1).toNat]))at Q
  generalize eo m.code[(a-1).toNat]=en at Q c first;repeat' ((first|refine aL e ?_|refine dZ f1 ?_|refine au Q ?_|refine ay ?_|refine av ?_|refine ptr ?_)<;>conv=>whnf)
  cases en
  ·replace c:=c rfl
   conv=>whnf
   refine eF [1,2,5] [2] (λi:Nat=>i<=m.code.length/\∀ j (b:j < m.code.length),j < i->(cV m.code[j]&&decide (m.code[j].a=a))=false) (λi=>m.code.length-i)
    (λi=>([.v (.int .i64 a),.l 2 0,.v (.int .i64 i)],[some [.int .i64 m.cls,.int .i64 m.eu,.slice I m.args.length E,.int .i64 m.out,.int .i64 m.locals,.slice A m.code.length F,.slice J m.aF.length G,.slice B m.catches.length H]],h)) 0 ⟨O,λ_ _ R=>O⟩ rfl ?_
   rintro i ⟨o,y⟩;conv=>whnf
   apply aC<;>intro t;all_goals conv=>whnf
   ·have s:i < m.code.length:=by omega
    obtain⟨f,g,e,f1⟩:=S s;have w:=aJ f1 (i:=1) rfl;have b:=hY m.code[i].kind m.code[i].a m.code[i].b h;change Pure _ _ _ _ (.bool (cV m.code[i]))at b
    have D:cV m.code[i]=true->m.code[i].a=a->gu m a=true:=λK L=>by
     rw[c,xk s (by rw[K,decide_eq_true L];rfl),Bool.true_or]
    have next:(cV m.code[i]&&decide (m.code[i].a=a))=false->∀ j (b:j < m.code.length),j < i+1->(cV m.code[j]&&decide (m.code[j].a=a))=false:=λq j b v=>by
     rcases Nat.lt_succ_iff_lt_or_eq.1 v with u|rfl
     ·exact y j b u
     exact q
    generalize YJ:cV m.code[i]=j at b D next;repeat' ((first|refine aL e ?_|refine dZ f1 ?_|refine au b ?_|refine ay ?_|refine av ?_|refine ptr ?_)<;>conv=>whnf)
    cases j
    ·conv=>whnf
     refine av ?_;conv=>whnf
     exact cL (i+1) ⟨O,next rfl⟩ O rfl
    conv=>whnf
    repeat' ((first|refine aL e ?_|refine ld w ?_|refine ay ?_|refine av ?_|refine ptr ?_)<;>conv=>whnf)
    apply aC<;>intro d;all_goals conv=>whnf
    ·exact⟨C (D rfl d),rfl⟩
    refine av ?_;conv=>whnf
    exact cL (i+1) ⟨O,next (by rw[decide_eq_false d];rfl)⟩ O rfl
   have N:=any_none (p:=λx=>cV x&&decide (x.a=a)) (l:=m.code) (λj b=>y j b O);rw[N,Bool.false_or]at c;refine eF [1,2,6] [2] (λi:Nat=>i<=m.catches.length/\∀ j (b:j < m.catches.length),j < i->(decide (m.catches[j].to=a))=false) (λi=>m.catches.length-i)
    (λi=>([.v (.int .i64 a),.l 2 0,.v (.int .i64 i)],[some [.int .i64 m.cls,.int .i64 m.eu,.slice I m.args.length E,.int .i64 m.out,.int .i64 m.locals,.slice A m.code.length F,.slice J m.aF.length G,.slice B m.catches.length H]],h)) 0 ⟨O,λ_ _ R=>O⟩ rfl ?_
   rintro i ⟨o,z⟩;conv=>whnf
   apply aC<;>intro t;all_goals conv=>whnf
   ·have s:i < m.catches.length:=by omega
    obtain⟨f,g,e,w⟩:=W s;repeat' ((first|refine aL e ?_|refine ld w ?_|refine ay ?_|refine av ?_|refine ptr ?_)<;>conv=>whnf)
    apply aC<;>intro d;all_goals conv=>whnf
    ·exact⟨C (by rw[c];exact xk s (decide_eq_true d)),rfl⟩
    refine av ?_;conv=>whnf
    refine cL (i+1) ⟨O,λj b v=>?_⟩ O rfl;rcases Nat.lt_succ_iff_lt_or_eq.1 v with u|rfl
    ·exact z j b u
    exact decide_eq_false d
   have P:=any_none (p:=λx:je=>decide (x.to=a)) (l:=m.catches) (λj b=>z j b O);exact⟨Y (by rw[c];exact P),rfl⟩
  conv=>whnf
  exact⟨C (first rfl),rfl⟩
 rw[decide_eq_false M,Bool.false_and]at c;replace c:=c rfl
 refine eF [1,2,5] [2] (λi:Nat=>i<=m.code.length/\∀ j (b:j < m.code.length),j < i->(cV m.code[j]&&decide (m.code[j].a=a))=false) (λi=>m.code.length-i)
  (λi=>([.v (.int .i64 a),.l 2 0,.v (.int .i64 i)],[some [.int .i64 m.cls,.int .i64 m.eu,.slice I m.args.length E,.int .i64 m.out,.int .i64 m.locals,.slice A m.code.length F,.slice J m.aF.length G,.slice B m.catches.length H]],h)) 0 ⟨O,λ_ _ R=>O⟩ rfl ?_
 rintro i ⟨o,y⟩;conv=>whnf
 apply aC<;>intro t;all_goals conv=>whnf
 ·have s:i < m.code.length:=by omega
  obtain⟨f,g,e,f1⟩:=S s;have w:=aJ f1 (i:=1) rfl;have b:=hY m.code[i].kind m.code[i].a m.code[i].b h;change Pure _ _ _ _ (.bool (cV m.code[i]))at b
  have D:cV m.code[i]=true->m.code[i].a=a->gu m a=true:=λK L=>by
   rw[c,xk s (by rw[K,decide_eq_true L];rfl),Bool.true_or]
  have next:(cV m.code[i]&&decide (m.code[i].a=a))=false->∀ j (b:j < m.code.length),j < i+1->(cV m.code[j]&&decide (m.code[j].a=a))=false:=λq j b v=>by
   rcases Nat.lt_succ_iff_lt_or_eq.1 v with u|rfl
   ·exact y j b u
   exact q
  generalize YJ:cV m.code[i]=j at b D next;repeat' ((first|refine aL e ?_|refine dZ f1 ?_|refine au b ?_|refine ay ?_|refine av ?_|refine ptr ?_)<;>conv=>whnf)
  cases j
  ·conv=>whnf
   refine av ?_;conv=>whnf
   exact cL (i+1) ⟨O,next rfl⟩ O rfl
  conv=>whnf
  repeat' ((first|refine aL e ?_|refine ld w ?_|refine ay ?_|refine av ?_|refine ptr ?_)<;>conv=>whnf)
  apply aC<;>intro d;all_goals conv=>whnf
  ·exact⟨C (D rfl d),rfl⟩
  refine av ?_;conv=>whnf
  exact cL (i+1) ⟨O,next (by rw[decide_eq_false d];rfl)⟩ O rfl
 have N:=any_none (p:=λx=>cV x&&decide (x.a=a)) (l:=m.code) (λj b=>y j b O);rw[N,Bool.false_or]at c;refine eF [1,2,6] [2] (λi:Nat=>i<=m.catches.length/\∀ j (b:j < m.catches.length),j < i->(decide (m.catches[j].to=a))=false) (λi=>m.catches.length-i)
  (λi=>([.v (.int .i64 a),.l 2 0,.v (.int .i64 i)],[some [.int .i64 m.cls,.int .i64 m.eu,.slice I m.args.length E,.int .i64 m.out,.int .i64 m.locals,.slice A m.code.length F,.slice J m.aF.length G,.slice B m.catches.length H]],h)) 0 ⟨O,λ_ _ R=>O⟩ rfl ?_
 rintro i ⟨o,z⟩;conv=>whnf
 apply aC<;>intro t;all_goals conv=>whnf
 ·have s:i < m.catches.length:=by omega
  obtain⟨f,g,e,w⟩:=W s;repeat' ((first|refine aL e ?_|refine ld w ?_|refine ay ?_|refine av ?_|refine ptr ?_)<;>conv=>whnf)
  apply aC<;>intro d;all_goals conv=>whnf
  ·exact⟨C (by rw[c];exact xk s (decide_eq_true d)),rfl⟩
  refine av ?_;conv=>whnf
  refine cL (i+1) ⟨O,λj b v=>?_⟩ O rfl;rcases Nat.lt_succ_iff_lt_or_eq.1 v with u|rfl
  ·exact z j b u
  exact decide_eq_false d
 have P:=any_none (p:=λx:je=>decide (x.to=a)) (l:=m.catches) (λj b=>z j b O);exact⟨Y (by rw[c];exact P),rfl⟩
def vG (r:List Value):Prop:=∃ p c q d,r=[.bool false,.slice p 0 c,.slice q 0 d]
theorem vG.KD {r:List Value} (a:vG r) (h:Heap):gR h r iR:=by
 obtain⟨p,c,q,d,rfl⟩:=a;exact⟨_,_,rfl,dX _ _ _,dX _ _ _⟩
theorem vH {h a:Heap} {p:Option Addr} {k c:Nat} {recs:List (List Value)} {B:List Nat} (f:bY 3 a (.slice p k c) recs B) (e:recs.length=k) (w:1<=k) (q:∀ r∈recs,vG r) (i:∀ b∈B,h b=none) (j:h.le a) :
  ∃ b,p=some ⟨b,0,none⟩/\fT h a b c (List.replicate k iR):=by
 have o:=f;obtain⟨y,⟨d,m,_⟩|⟨b,s,rest,A,d,v,u,_,rfl⟩⟩:=f
 ·rw[m]at e;simp at e;omega
 simp only[Z_]at d;obtain⟨rfl,x,rfl⟩:=d;refine⟨b,rfl,j,i b Z,recs,by simpa using o,by simpa using e,λz g t=>?_⟩;rw[List.getElem_replicate];exact(q _ (x_ g)).KD _
theorem AI (S C:List Value) (u:aI) (m:bT) (h:Heap) (hu:dn h S u) (z:dz h C m) (hV:AE u) (x:KC u m) :
  bq prog 215 [.agg ⟨S⟩,.agg ⟨C⟩] h
   λv h'=>h.le h'/\∃ b c A,v=.slice (some ⟨b,0,none⟩) A.length c/\fT h h' b c A/\A.length=m.code.length/\m9 u.ak.length m.locals A:=by
 have tH:=hu;have SX:=z;have ok:=hV.1;have sH:=ok.2.1;have si:=x.head.2.2.2.2.1;have su:=x.len;have Hx:=λL b c A W ae hA SM wX=>yW S C u m h L b c A W hu z hV x ae hA SM wX;have oU:=λa (hl:h.le a)=>oT S C m u.ak.length a (z.le hl) x.head sH;have NG:=λW a (hl:h.le a) wX=>yY C m W a (z.le hl) wX;obtain⟨ab,X,ad,aa,rfl,hcs,lR,jq,hl2⟩:=hu.form;obtain⟨N,G,P,H,Q,I,R,J,rfl,k1,k2,k3,k4,k5,k6,k7,k8,d1,d2,d3,d4⟩:=z.form;refine bE ax func215 Ra U rfl ?_;conv=>whnf
 refine cZ [] rfl (λw L EK e0 l1 g0=>?_);conv=>whnf
 have o0:bY 3 L (.slice (some ⟨w,0,none⟩) 0 0) [] [w]:=⟨Z,.inr ⟨w,0,[],_,rfl,Z,by simpa using g0,Z,rfl⟩⟩
 refine eF [2,3,5,6] [2,3] (λy:Nat × Heap × Option Addr × Nat × List (List Value) × List Nat=>y.1<=m.code.length/\h.le y.2.1/\bY 3 y.2.1 (.slice y.2.2.1 y.1 y.2.2.2.1) y.2.2.2.2.1 y.2.2.2.2.2/\y.2.2.2.2.1.length=y.1/\(∀ r∈y.2.2.2.2.1,vG r)/\∀ b∈y.2.2.2.2.2,h b=none) (λy=>m.code.length-y.1)
  (λy=>([.l 2 0,.l 3 0,.v (.slice y.2.2.1 y.1 y.2.2.2.1),.v (.int .i64 y.1)],
   [some [.slice ab u.ak.length X,.slice ad u.methods.length aa],some [.int .i64 m.cls,.int .i64 m.eu,.slice N m.args.length G,.int .i64 m.out,.int .i64 m.locals,.slice P m.code.length H,.slice Q m.aF.length I,.slice R m.catches.length J]],y.2.1))
  (0,L,some ⟨w,0,none⟩,0,[],[w]) ⟨O,l1,o0,rfl,Z,by simpa using EK⟩ rfl ?_
 rintro⟨k,h2,pa,j,recs,B⟩ ⟨hk,l2,o2,n2,r2,f2⟩;simp only at hk l2 o2 n2 r2 f2 ⊢;conv=>whnf
 apply aC<;>intro af;all_goals conv=>whnf
 ·refine aB (ji h2) (λv h3 a=>?_);have M:=a.1;refine a.2.elim λE a=>a.elim λF o=>?_;subst o;conv=>whnf
  refine dh (h0:=h) (xs:=recs) (ys:=[[.bool false,.slice (some ⟨E,0,none⟩) 0 0,.slice (some ⟨F,0,none⟩) 0 0]]) (B:=B) (o2.aK (cS.of_le M _)) f2 (y_ l2 M) rfl rfl Z rfl rfl (by simp;omega) (by simp;omega) ?_;intro v4 h4 B4 w1 w2 w3 w4 w5;have ff:=w2.form;refine ff.elim λp5 ff=>ff.elim λc5 hf=>?_;have Vj:=hf.1;have OZ:(recs++[[Value.bool false,.slice (some ⟨E,0,none⟩) 0 0,.slice (some ⟨F,0,none⟩) 0 0]]).length=k+1:=by simp[n2]
  rw[OZ]at Vj;subst Vj;conv=>whnf
  refine av ?_;conv=>whnf
  refine cL (k+1,h4,p5,c5,recs++[[.bool false,.slice (some ⟨E,0,none⟩) 0 0,.slice (some ⟨F,0,none⟩) 0 0]],B4) ⟨by simp only;omega,w1,w2,OZ,λr e=>?_,w3⟩ (by simp only;omega) rfl;rcases u_.1 e with e|e
  ·exact r2 r e
  rw[V_.1 e];exact⟨_,_,_,_,rfl⟩
 have S2:k=m.code.length:=by omega
 subst S2;obtain⟨b,rfl,D⟩:=vH o2 n2 su.1 r2 f2 l2;obtain⟨ah,Aq⟩:=D.in;have U7:(List.replicate m.code.length iR).length=m.code.length:=by simp
 refine iL Aq (oU (aV h2 b) D.hle) (λv h3 M e=>?_);have a3:=D.aK M;refine e.elim λq1 e=>e.elim λe1 e=>e.elim λq2 e=>e.elim λe2 e=>?_;have o:=e.1;subst o;have Dy:=e.2;refine(a3.at (i:=0) O).elim λ_ d=>d.elim λ_ d=>d.elim λ_ d=>d.elim λ_ d=>?_;have put:=d.2.2.2;conv=>whnf
 repeat' ((first|refine ay ?_|refine av ?_|refine ptr ?_)<;>conv=>whnf)
 refine put _ (dF m) _ (sJ.of Dy) (λh4 ML a4=>?_);have v4:m9 u.ak.length m.locals ((List.replicate m.code.length iR).set 0 (dF m)):=qg (λai hs ht=>by rw[List.eq_of_mem_replicate hs]at ht;cases ht) 0 (λ_=>kT x.head sH);have n4:((List.replicate m.code.length iR).set 0 (dF m)).length=m.code.length:=by simp
 generalize (List.replicate m.code.length iR).set 0 (dF m)=A4 at a4 v4 n4;clear put d Dy a3 D;conv=>whnf
 refine eF [2,3,5,7] [2,3] (λy:Heap × List cz × Bool=>fT h y.1 b j y.2.1/\m9 u.ak.length m.locals y.2.1/\y.2.1.length=m.code.length) (λy=>2*mu y.2.1+y.2.2.toNat)
  (λy=>([.l 2 0,.l 3 0,.v (.slice (some ⟨b,0,none⟩) m.code.length j),.v (.bool y.2.2)],
   [some [.slice ab u.ak.length X,.slice ad u.methods.length aa],some [.int .i64 m.cls,.int .i64 m.eu,.slice N m.args.length G,.int .i64 m.out,.int .i64 m.locals,.slice P m.code.length H,.slice Q m.aF.length I,.slice R m.catches.length J]],y.1))
  (h4,A4,true) ⟨a4,v4,n4⟩ rfl ?_
 rintro⟨h5,t,YK⟩ ⟨V,v5,n5⟩;simp only at V v5 n5 ⊢;cases YK
 ·conv=>whnf
  refine eF [3,5,9] [3] (λy:Nat × Heap × List cz=>y.1<=m.code.length/\fT h y.2.1 b j y.2.2/\m9 u.ak.length m.locals y.2.2/\y.2.2.length=m.code.length) (λy=>m.code.length-y.1)
   (λy=>([.l 3 0,.v (.slice (some ⟨b,0,none⟩) m.code.length j),.v (.int .i64 y.1)],
    [some [.int .i64 m.cls,.int .i64 m.eu,.slice N m.args.length G,.int .i64 m.out,.int .i64 m.locals,.slice P m.code.length H,.slice Q m.aF.length I,.slice R m.catches.length J]],y.2.1))
   (0,h5,t) ⟨O,V,v5,n5⟩ rfl ?_
  rintro⟨i,q,f⟩ ⟨hi,p,T,s⟩;simp only at hi p T s ⊢;conv=>whnf
  apply aC<;>intro K;all_goals conv=>whnf
  ·have hw:=NG i q p.le ⟨O,K⟩;generalize gu m i=ag at hw;refine au hw ?_;cases ag
   ·conv=>whnf
    refine aB (ji q) (λv h7 a=>?_);have l7:=a.1;refine a.2.elim λE a=>a.elim λF o=>?_;subst o;have a7:=p.aK l7;refine(a7.at (i:=i) O).elim λ_ d=>d.elim λ_ d=>d.elim λ_ d=>d.elim λ_ d=>?_;have put:=d.2.2.2;conv=>whnf
    repeat' ((first|refine ay ?_|refine av ?_|refine ptr ?_)<;>conv=>whnf)
    refine put _ iR _ (vG.KD ⟨_,_,_,_,rfl⟩ _) (λh8 hh8 a8=>?_);conv=>whnf
    refine av ?_;conv=>whnf
    exact cL (i+1,h8,f.set i iR) ⟨by simp only;omega,a8,qg T i (λhx=>by cases hx),by simpa using s⟩ (by simp only;omega) rfl
   conv=>whnf
   refine av ?_;conv=>whnf
   exact cL (i+1,q,f) ⟨by simp only;omega,p,T,s⟩ (by simp only;omega) rfl
  exact⟨p.le,b,j,f,by rw[s],p,s,T⟩
 conv=>whnf
 refine eF [2,3,5,7,8] [2,3] (λy:Nat × Heap × List cz × Bool=>y.1<=m.code.length/\Grown h h5 b j u.ak.length m.locals t y.2.1 y.2.2.1 y.2.2.2) (λy=>m.code.length-y.1)
  (λy=>([.l 2 0,.l 3 0,.v (.slice (some ⟨b,0,none⟩) m.code.length j),.v (.bool y.2.2.2),.v (.int .i64 y.1)],
   [some [.slice ab u.ak.length X,.slice ad u.methods.length aa],some [.int .i64 m.cls,.int .i64 m.eu,.slice N m.args.length G,.int .i64 m.out,.int .i64 m.locals,.slice P m.code.length H,.slice Q m.aF.length I,.slice R m.catches.length J]],y.2.1))
  (0,h5,t,false) ⟨O,Grown.start V v5⟩ rfl ?_
 rintro⟨i,q,f,Y⟩ ⟨hi,g⟩;simp only at hi g ⊢;have s:=g.len;conv=>whnf
 apply aC<;>intro K;all_goals conv=>whnf
 ·have Vk:=Hx q b j f i g.all g.val O ⟨O,O⟩;rw[show f.length=m.code.length by omega]at Vk;refine aB Vk (λv h7 a=>?_);refine a.elim λYL a=>a.elim λA7 a=>?_;have o:=a.1;subst o;have g7:=g.trans a.2;cases YL
  ·conv=>whnf
   refine av ?_;conv=>whnf
   exact cL (i+1,h7,A7,Y) ⟨by simp only;omega,by simpa using g7⟩ (by simp only;omega) rfl
  conv=>whnf
  refine av ?_;conv=>whnf
  exact cL (i+1,h7,A7,true) ⟨by simp only;omega,by simpa using g7⟩ (by simp only;omega) rfl
 refine cL (q,f,Y) ⟨g.all,g.val,by simp only;omega⟩ ?_ rfl;have hmu:=g.mu;have YM:=g.less;cases Y
 ·show 2*mu f+0 < 2*mu t+1;omega
 have:=YM rfl;show 2*mu f+1 < 2*mu t+1;omega
def cF (m:bT) (i:Int):cz:=m.aF.getD i.toNat iR
def dK (u:aI) (m:bT) (i:Int) (s:cz):Bool:=(cF m i).told&&oS u.ak s (cF m i)
def gO (u:aI) (m:bT) (i:Int) (s nx:cz):Bool:=(!cV (bM m i)||dK u m (bM m i).a nx)&&m.catches.all (λc=>!decide (c.lo<=i/\i<=c.hi-1)||dK u m c.to (bO c.cls s))
structure LG (u:aI) (m:bT):Prop where
 mi:KC u m
 num:m.aF.length=m.code.length
 val:m9 u.ak.length m.locals m.aF
theorem all_none {a:Type} {l:List a} {p:a->Bool} {i:Nat} (b:i < l.length) (h:p l[i]=false):l.all p=false:=by
 rw[List.all_eq_false];exact⟨_,x_ b,by rw[h];simp⟩
theorem Fh {b:Type} {l:List b} {p:b->Bool} (h:∀ j (a:j < l.length),p l[j]=true):l.all p=true:=by
 rw[List.all_eq_true];intro x c;obtain⟨j,a,rfl⟩:=List.mem_iff_getElem.1 c;exact h j a
theorem xl {h:Heap} {p:Option Addr} {n c:Nat} {l:List cz} (u:Row 3 gR h (.slice p n c) l) {i:Nat} (s:i < l.length):∃ b o e a f d,p=some ⟨b,o,none⟩/\dP h b (o+i*3) 3=some [.bool l[i].told,.slice e l[i].locals.length a,.slice f l[i].stack.length d]/\rd h b (o+i*3)=some (.bool l[i].told)/\jL h l[i] e f a d:=by
 obtain⟨b,o,w,t,g,v,k,q,j,m⟩:=u.get s;have f1:=j.len;obtain⟨e,a,rfl,_,_⟩:=f1;have f2:=m.len;obtain⟨f,d,rfl,_,_⟩:=f2;subst q;exact⟨b,o,e,a,f,d,t,g,by simpa using aJ g (i:=0) rfl,j,m⟩
theorem CU (q p:List Value) (u:aI) (m:bT) (a:Int) (s:cz) (v:Value) (h:Heap) (E:dn h q u) (C:dz h p m) (ok:bX u.ak) (j:LG u m) (V:0<=a/\a < m.code.length) (g:mY u.ak.length m.locals s) (D:sJ h v s) :
  Pure prog 202 [.agg ⟨q⟩,.agg ⟨p⟩,.int .i64 a,v] h (.bool (dK u m a s)):=by
 obtain⟨J,w,ab,T,rfl,A,Y,W,X⟩:=E.form;obtain⟨p1,P,p2,Q,p3,R,p4,S,rfl,k1,k2,k3,k4,k5,k6,F,k8,d1,d2,d3,d4⟩:=C.form;obtain⟨K,x,L,y,rfl,z⟩:=D;have Hy:=j.num;have f:a.toNat < m.aF.length:=by omega
 obtain⟨N,aa,lp,I,H,G,o,f1,f2,i⟩:=xl F f;have B:cF m a=m.aF[a.toNat]:=cI f;have c:=j.val _ (x_ f);unfold dK;rw[B];generalize m.aF[a.toNat]=r at f1 f2 i c;have d:=λb:r.told=true=>wY J u.ak.length w u.ak s r K L lp H x y I G h A ok z i (by have:=(c b).loc;have:=g.loc;omega) (λt b=>(g.mZ t b).2) (λt b=>(g.cA t b).2) (λt e=>((c b).mZ t e).2) (λt e=>((c b).cA t e).2);refine gF ax func202 Q1 U rfl ?_;conv=>whnf
 generalize YN:r.told=M at f1 f2 d ⊢;cases M
 ·repeat' ((first|exact trivial|exact⟨rfl,rfl⟩|apply T_|refine ay ?_|refine aL o ?_|refine ld f2 ?_)<;>conv=>whnf)
 have d:=d rfl;repeat' ((first|exact trivial|exact⟨rfl,rfl⟩|apply T_|refine ay ?_|refine aL o ?_|refine ld f2 ?_|refine dZ f1 ?_|refine aP d ?_)<;>conv=>whnf)
theorem AJ (us ms:List Value) (u:aI) (m:bT) (a:Int) (s nx:cz) (v w:Value) (h:Heap) (hu:dn h us u) (hm:dz h ms m) (ok:bX u.ak) (A:LG u m) (wX:0<=a/\a < m.code.length) (hs:mY u.ak.length m.locals s) (hr:sJ h v s) (hn:mY u.ak.length m.locals nx) (hw:sJ h w nx) :
  bq prog 141 [.agg ⟨us⟩,.agg ⟨ms⟩,.int .i64 a,v,w] h λx h'=>h.le h'/\x=.bool (gO u m a s nx):=by
 have BN:=λi p (hl:h.le p) wX x y T V=>CU us ms u m i x y p (hu.le hl) (hm.le hl) ok A wX T V;obtain⟨ad,cc,ae,ab,rfl,hcs,lR,jq,hl2⟩:=hu.form;obtain⟨p1,c1,p2,c2,p3,c3,p4,c4,rfl,k1,k2,k3,k4,k5,k6,k7,k8,d1,d2,d3,d4⟩:=hm.form;obtain⟨q1,X,q2,Y,rfl,hI⟩:=hr;have Vm:=hw;obtain⟨q3,e3,q4,e4,rfl,hJ⟩:=hw;have sH:=ok.2.1;have su:=A.mi.len;have Ve:=A.mi.cat.1;have si:=A.mi.head.2.2.2.2.1;have IM:=hs.loc;have yX:a.toNat < m.code.length:=by omega
 obtain⟨bi,oi,vi,AK,f1,f2,f3⟩:=k6.get yX;have tq:bM m a=m.code[a.toNat]:=cI yX;have I:=λd=>(A.mi.code _ (x_ yX)).jump d;subst f2;have E:=λB=>hY m.code[a.toNat].kind m.code[a.toNat].a m.code[a.toNat].b B;have g:gO u m a s nx=((!cV m.code[a.toNat]||dK u m m.code[a.toNat].a nx)&&m.catches.all (λW=>!decide (W.lo<=a/\a<=W.hi-1)||dK u m W.to (bO W.cls s))):=by unfold gO;rw[tq]
 change ∀ B,Pure _ _ _ B (.bool (cV m.code[a.toNat]))at E
 generalize m.code[a.toNat]=x at f1 I E g;obtain⟨ik,o,ib⟩:=x;simp only at f1 I g E;have r1:=aJ f1 (i:=1) rfl;generalize cV ⟨ik,o,ib⟩=j at E I g;generalize gO u m a s nx=res at g;have N:∀ {aa:Bool} {h':Heap},h.le h'->res=aa->h.le h'/\Value.bool aa=.bool res:=λhl e=>⟨hl,by rw[e]⟩
 refine bE ax func141 Qe U rfl ?_;conv=>whnf
 have S:(j=true/\dK u m o nx=false/\0<=o/\o < m.code.length)\/((!j||dK u m o nx)=true/\(j=true->0<=o/\o < m.code.length)):=by
  cases j
  ·exact .inr ⟨rfl,I⟩
  cases ht:dK u m o nx
  ·exact .inl ⟨rfl,rfl,I rfl⟩
  exact .inr ⟨rfl,I⟩
 have loop:True:=trivial;rcases S with ⟨rfl,ht,NF⟩|⟨S,NF⟩
 ·have p:=BN o h (z_ h) NF nx _ hn Vm;rw[ht]at p g;repeat' ((first|exact trivial|exact N (z_ h) g|apply T_|refine ay ?_|refine aL AK ?_|refine dZ f1 ?_|refine ld r1 ?_|refine aP (E _) ?_|refine aP p ?_)<;>conv=>whnf)
 rw[S,Bool.true_and]at g;have p:=λd=>BN o h (z_ h) (NF d) nx _ hn Vm;have S3:j=true->dK u m o nx=true:=λe=>by rw[e]at S;simpa using S
 cases j
 ·repeat' ((first|exact trivial|apply T_|refine ay ?_|refine aL AK ?_|refine dZ f1 ?_|refine ld r1 ?_|refine aP (E _) ?_)<;>conv=>whnf)
  all_goals
   refine eF [2,5,6,8,11] [5,6,8] (λy:Nat × Heap=>y.1<=m.catches.length/\h.le y.2/\∀ j (d:j < m.catches.length),j < y.1->(!decide (m.catches[j].lo<=a/\a<=m.catches[j].hi-1)||dK u m m.catches[j].to (bO m.catches[j].cls s))=true) (λy=>m.catches.length-y.1)
    (λy=>([.v (.int .i64 a),.l 5 0,.l 6 0,.l 8 0,.v (.int .i64 y.1)],
     [some [.slice ad u.ak.length cc,.slice ae u.methods.length ab],some [.int .i64 m.cls,.int .i64 m.eu,.slice p1 m.args.length c1,.int .i64 m.out,.int .i64 m.locals,.slice p2 m.code.length c2,.slice p3 m.aF.length c3,.slice p4 m.catches.length c4],some [.bool s.told,.slice q1 s.locals.length X,.slice q2 s.stack.length Y]],y.2))
    (0,h) ⟨O,z_ h,λ_ _ T=>by simp only at T;omega⟩ rfl ?_
   rintro⟨i,P⟩ ⟨Nw,c,z⟩;simp only at Nw c z ⊢;conv=>whnf
   apply aC<;>intro g2;all_goals conv=>whnf
   ·have D:i < m.catches.length:=by omega
    obtain⟨bb,off,vs,AH,H,w2,w3⟩:=k8.get D;subst w2;have R:=A.mi.cat.2 _ (x_ D);have f:(!decide (m.catches[i].lo<=a/\a<=m.catches[i].hi-1)||dK u m m.catches[i].to (bO m.catches[i].cls s))=false->res=false:=λe=>by rw[g];exact all_none D e
    have next:(!decide (m.catches[i].lo<=a/\a<=m.catches[i].hi-1)||dK u m m.catches[i].to (bO m.catches[i].cls s))=true->∀ j (d:j < m.catches.length),j < i+1->(!decide (m.catches[j].lo<=a/\a<=m.catches[j].hi-1)||dK u m m.catches[j].to (bO m.catches[j].cls s))=true:=λe j d GL=>by
     rcases Nat.lt_succ_iff_lt_or_eq.1 GL with G7|rfl
     ·exact z j d G7
     exact e
    generalize m.catches[i]=ct at H w3 R f next;obtain⟨G,C,to,cls⟩:=ct;obtain⟨⟨Nx,Ny,J,K⟩,⟨NA,NB⟩,⟨L,M⟩,_⟩:=R;simp only at H Nx Ny J K NA NB L M f next;have xj:=eT c _ _ _ H;repeat' ((first|refine aL AH ?_|refine dZ xj ?_|refine ay ?_|refine av ?_|refine ptr ?_)<;>conv=>whnf)
    have q:=λB=>dW a G (C-1) B;have NC:=ru hs ⟨L,M⟩;have Q:=m4 G C to cls s q1 q2 X Y P (hI.le c) O O;generalize decide (G<=a/\a<=C-1)=ND at q f next;cases ND
    ·repeat' ((first|exact trivial|apply T_|refine av ?_|refine aP (q _) ?_)<;>conv=>whnf)
     all_goals exact cL (i+1,P) ⟨by simp only;omega,c,next rfl⟩ (by simp only;omega) rfl
    have F:=λt l7 y V=>BN to t (y_ c l7) ⟨J,K⟩ (bO cls s) y NC V;generalize dK u m to (bO cls s)=tl at F f next;cases tl
    ·have CK:=f rfl;repeat' ((first|exact trivial|exact N (y_ c b.1) CK|apply T_|refine av ?_|refine aP (q _) ?_|refine cP Q (λv t b=>⟨b.1,?_⟩)|refine aP (F _ b.1 _ b.2) ?_)<;>conv=>whnf)
    have next:=next rfl;repeat' ((first|exact trivial|apply T_|refine av ?_|refine aP (q _) ?_|refine cP Q (λv t b=>⟨b.1,?_⟩)|refine aP (F _ b.1 _ b.2) ?_)<;>conv=>whnf)
    all_goals exact cL (i+1,t) ⟨by simp only;omega,y_ c b.1,next⟩ (by simp only;omega) rfl
   exact N c (by rw[g];exact Fh λj d=>z j d O)
 have p:=p rfl;rw[S3 rfl]at p;repeat' ((first|exact trivial|apply T_|refine ay ?_|refine aL AK ?_|refine dZ f1 ?_|refine ld r1 ?_|refine aP (E _) ?_|refine aP p ?_)<;>conv=>whnf)
 all_goals
  refine eF [2,5,6,8,11] [5,6,8] (λy:Nat × Heap=>y.1<=m.catches.length/\h.le y.2/\∀ j (d:j < m.catches.length),j < y.1->(!decide (m.catches[j].lo<=a/\a<=m.catches[j].hi-1)||dK u m m.catches[j].to (bO m.catches[j].cls s))=true) (λy=>m.catches.length-y.1)
   (λy=>([.v (.int .i64 a),.l 5 0,.l 6 0,.l 8 0,.v (.int .i64 y.1)],
    [some [.slice ad u.ak.length cc,.slice ae u.methods.length ab],some [.int .i64 m.cls,.int .i64 m.eu,.slice p1 m.args.length c1,.int .i64 m.out,.int .i64 m.locals,.slice p2 m.code.length c2,.slice p3 m.aF.length c3,.slice p4 m.catches.length c4],some [.bool s.told,.slice q1 s.locals.length X,.slice q2 s.stack.length Y]],y.2))
   (0,h) ⟨O,z_ h,λ_ _ T=>by simp only at T;omega⟩ rfl ?_
  rintro⟨i,P⟩ ⟨Nw,c,z⟩;simp only at Nw c z ⊢;conv=>whnf
  apply aC<;>intro g2;all_goals conv=>whnf
  ·have D:i < m.catches.length:=by omega
   obtain⟨bb,off,vs,AH,H,w2,w3⟩:=k8.get D;subst w2;have R:=A.mi.cat.2 _ (x_ D);have f:(!decide (m.catches[i].lo<=a/\a<=m.catches[i].hi-1)||dK u m m.catches[i].to (bO m.catches[i].cls s))=false->res=false:=λe=>by rw[g];exact all_none D e
   have next:(!decide (m.catches[i].lo<=a/\a<=m.catches[i].hi-1)||dK u m m.catches[i].to (bO m.catches[i].cls s))=true->∀ j (d:j < m.catches.length),j < i+1->(!decide (m.catches[j].lo<=a/\a<=m.catches[j].hi-1)||dK u m m.catches[j].to (bO m.catches[j].cls s))=true:=λe j d GL=>by
    rcases Nat.lt_succ_iff_lt_or_eq.1 GL with G7|rfl
    ·exact z j d G7
    exact e
   generalize m.catches[i]=ct at H w3 R f next;obtain⟨G,C,to,cls⟩:=ct;obtain⟨⟨Nx,Ny,J,K⟩,⟨NA,NB⟩,⟨L,M⟩,_⟩:=R;simp only at H Nx Ny J K NA NB L M f next;have xj:=eT c _ _ _ H;repeat' ((first|refine aL AH ?_|refine dZ xj ?_|refine ay ?_|refine av ?_|refine ptr ?_)<;>conv=>whnf)
   have q:=λB=>dW a G (C-1) B;have NC:=ru hs ⟨L,M⟩;have Q:=m4 G C to cls s q1 q2 X Y P (hI.le c) O O;generalize decide (G<=a/\a<=C-1)=ND at q f next;cases ND
   ·repeat' ((first|exact trivial|apply T_|refine av ?_|refine aP (q _) ?_)<;>conv=>whnf)
    all_goals exact cL (i+1,P) ⟨by simp only;omega,c,next rfl⟩ (by simp only;omega) rfl
   have F:=λt l7 y V=>BN to t (y_ c l7) ⟨J,K⟩ (bO cls s) y NC V;generalize dK u m to (bO cls s)=tl at F f next;cases tl
   ·have CK:=f rfl;repeat' ((first|exact trivial|exact N (y_ c b.1) CK|apply T_|refine av ?_|refine aP (q _) ?_|refine cP Q (λv t b=>⟨b.1,?_⟩)|refine aP (F _ b.1 _ b.2) ?_)<;>conv=>whnf)
   have next:=next rfl;repeat' ((first|exact trivial|apply T_|refine av ?_|refine aP (q _) ?_|refine cP Q (λv t b=>⟨b.1,?_⟩)|refine aP (F _ b.1 _ b.2) ?_)<;>conv=>whnf)
   all_goals exact cL (i+1,t) ⟨by simp only;omega,y_ c b.1,next⟩ (by simp only;omega) rfl
  exact N c (by rw[g];exact Fh λj d=>z j d O)
theorem fT.app {h0 h:Heap} {b c n bytes:Nat} {A:List cz} {zero:List Value} {y:TypeId} {vs:List Value} {s:cz} {K:Value->Heap->Prop} (a:fT h0 h b c A) (i:n=A.length) (p:gR (aV h b) vs s) (T:A.length<=1000) (M:zero.length=3) (z:bytes<=100)
  (E:∀ d j f,fT h0 f d j (A++[s])->(aV h b).le (aV f d)->K (.slice (some ⟨d,0,none⟩) (A.length+1) j) f):App bytes 3 zero y h (some ⟨b,0,none⟩) n c 1 vs K:=by
 subst i;obtain⟨m,I,i,J⟩:=a.row;have L:vs.length=3:=by obtain⟨_,_,rfl,_⟩:=p;rfl
 have C:dI vs=true:=by
  obtain⟨l,k,rfl,g,o⟩:=p;obtain⟨_,_,rfl,_⟩:=g.len;obtain⟨_,_,rfl,_⟩:=o.len;rfl
 have X:(m.length + [vs].length)*bytes<=1001*100:=Nat.mul_le_mul (by simp;omega) z;refine dh (h0:=h0) (xs:=m) (ys:=[vs]) (B:=[b]) I (by simpa using a.fr) a.le Z rfl (by simpa using L) C M O (by simp;omega) ?_;intro v' f S N v P Q R;have w:=v;obtain⟨e,⟨_,G,_⟩|⟨d,j,rest,aa,rfl,W,V,_,rfl⟩⟩:=v
 ·simp at G
 have F:(m++[vs]).length=A.length+1:=by simp[i]
 rw[F]at w ⊢;have hle:(aV h b).le (aV f d):=λx Y e=>by
  unfold aV at e ⊢;split at e
  ·cases e
  rename_i u;have H:x≠d:=by
   rintro rfl;rcases R x Z with g|g
   ·exact u (by simpa using g)
   rw[g]at e;cases e
  rw[if_neg H,Q x (by simpa using u) (by rw[e];simp)];exact e
 refine E d j f ⟨N,P d Z,m++[vs],by simpa using w,by simp[i],λq g o=>?_⟩ hle;by_cases t:q < A.length
 ·rw[List.getElem_append_left O,List.getElem_append_left t];exact(J q O t).le hle
 have D:q=A.length:=by simp at o;omega
 subst D;rw[List.getElem_append_right O,List.getElem_append_right O];simp only[i,Nat.sub_self,List.getElem_cons_zero];exact p.le hle
def cB (u:aI) (m:bT):Nat->Int->cz->Bool->List cz->List cz × Bool
 | 0,_,_,comes,out=>(out,!comes)
 | k+1,i,s,comes,out =>
  if (cF m i).told=true/\comes=true/\oS u.ak s (cF m i)=false then (out,false)
  else if (cF m i).told=false/\comes=false then (out,false)
  else match stepT u m (bM m i) (if (cF m i).told=true then cF m i else s)with
   | none=>(out++[if (cF m i).told=true then cF m i else s],false)
   | some a=>if gO u m i (if (cF m i).told=true then cF m i else s) a=true then cB u m k (i+1) a (!eo (bM m i)) (out++[if (cF m i).told=true then cF m i else s])else (out++[if (cF m i).told=true then cF m i else s],false)
def bK (u:aI) (m:bT):List cz × Bool:=cB u m m.code.length 0 (dF m) true []
def AL (u:aI) (m:bT) (k:Nat) (i:Int) (s:cz) (out:List cz):List cz × Bool:=match stepT u m (bM m i) s with
 | none=>(out++[s],false)
 | some a=>if gO u m i s a=true then cB u m k (i+1) a (!eo (bM m i)) (out++[s])else (out++[s],false)
theorem qh {u:aI} {m:bT} {k:Nat} {i:Int} {s:cz} {comes:Bool} {out:List cz} (a:(cF m i).told=true):cB u m (k+1) i s comes out=if comes=true/\oS u.ak s (cF m i)=false then (out,false)else AL u m k i (cF m i) out:=by
 rw[cB];simp[a,AL]
theorem rU {u:aI} {m:bT} {k:Nat} {i:Int} {s:cz} {comes:Bool} {out:List cz} (a:(cF m i).told=false):cB u m (k+1) i s comes out=if comes=false then (out,false)else AL u m k i s out:=by
 rw[cB];simp[a,AL]
theorem yZ (us ms:List Value) (u:aI) (m:bT) (h:Heap) (hu:dn h us u) (hm:dz h ms m) (hV:AE u) (F:LG u m) :
  bq prog 59 [.agg ⟨us⟩,.agg ⟨ms⟩] h
   λv B=>h.le B/\∃ sl,v=.tuple #[sl,.bool (bK u m).2]/\Row 3 gR B sl (bK u m).1:=by
 have tH:=hu;have SX:=hm;have ok:=hV.1;have sH:=ok.2.1;have si:=F.mi.head.2.2.2.2.1;have su:=F.mi.len;have Hy:=F.num;have tO:=F.mi.head.2.2.1;have oU:=λY (Q:h.le Y)=>oT us ms m u.ak.length Y (hm.le Q) F.mi.head sH;have oV:=λat_ s e v aj Y (Q:h.le Y) p R a hn hw=>AJ us ms u m at_ s e v aj Y (hu.le Q) (hm.le Q) ok F p R a hn hw;have Fi:=λat_ s ad g M af Y (Q:h.le Y) hI R p q=>rj us ms u m at_ s ad g M af Y (hu.le Q) (hm.le Q) hV hI R si p q tO;obtain⟨ag,cc,ai,af,rfl,hcs,lR,jq,hl2⟩:=hu.form;obtain⟨p1,c1,p2,c2,p3,c3,p4,c4,rfl,k1,k2,k3,k4,k5,k6,k7,k8,d1,d2,d3,d4⟩:=hm.form;have N:∀(ab:Heap) (g M n:Nat) (Fj:List cz) (S4:Bool),fT h ab g M Fj->n=Fj.length->Fj.length<=1000->bK u m=(Fj,S4)->h.le ab/\∃ sl,Value.tuple #[.slice (some ⟨g,0,none⟩) n M,.bool S4]=.tuple #[sl,.bool (bK u m).2]/\Row 3 gR ab sl (bK u m).1:=λab g M n Fj S4 ad hn Q ah=>by
  subst hn;rw[ah];exact⟨ad.le,_,rfl,ad.oA Q⟩
 refine bE ax func59 WK U rfl ?_;conv=>whnf
 refine cZ [] rfl (λb0 h1 EK e0 l1 g0=>?_);conv=>whnf
 have o0:bY 3 h1 (.slice (some ⟨b0,0,none⟩) 0 0) [] [b0]:=⟨Z,.inr ⟨b0,0,[],_,rfl,Z,by simpa using g0,Z,rfl⟩⟩
 have a0:fT h h1 b0 0 []:=⟨l1,EK,[],o0,rfl,λi hi _=>by simp at hi⟩
 obtain⟨o1,Aq⟩:=a0.in;refine iL Aq (oU _ a0.hle) (λv h2 l2 a=>?_);have a2:=a0.aK l2;refine a.elim λq1 a=>a.elim λe1 a=>a.elim λq2 a=>a.elim λe2 a=>?_;have d:=a.1;subst d;have NH:=a.2;conv=>whnf
 refine eF [2,3,6,7,8,9] [2,3,7] (λy:Nat × Heap × (Nat × Nat × List cz) × (cz × Option Addr × Nat × Option Addr × Nat) × Bool=>y.1<=m.code.length/\fT h y.2.1 y.2.2.1.1 y.2.2.1.2.1 y.2.2.1.2.2/\y.2.2.1.2.2.length=y.1/\jL (aV y.2.1 y.2.2.1.1) y.2.2.2.1.1 y.2.2.2.1.2.1 y.2.2.2.1.2.2.2.1 y.2.2.2.1.2.2.1 y.2.2.2.1.2.2.2.2/\mY u.ak.length m.locals y.2.2.2.1.1/\bK u m=cB u m (m.code.length-y.1) y.1 y.2.2.2.1.1 y.2.2.2.2 y.2.2.1.2.2) (λy=>m.code.length-y.1)
  (λy=>([.l 2 0,.l 3 0,.v (.slice (some ⟨y.2.2.1.1,0,none⟩) y.1 y.2.2.1.2.1),.l 7 0,.v (.bool y.2.2.2.2),.v (.int .i64 y.1)],
   [some [.slice ag u.ak.length cc,.slice ai u.methods.length af],some [.int .i64 m.cls,.int .i64 m.eu,.slice p1 m.args.length c1,.int .i64 m.out,.int .i64 m.locals,.slice p2 m.code.length c2,.slice p3 m.aF.length c3,.slice p4 m.catches.length c4],some [.bool y.2.2.2.1.1.told,.slice y.2.2.2.1.2.1 y.2.2.2.1.1.locals.length y.2.2.2.1.2.2.1,.slice y.2.2.2.1.2.2.2.1 y.2.2.2.1.1.stack.length y.2.2.2.1.2.2.2.2]],y.2.1))
  (0,h2,(b0,0,[]),(dF m,q1,e1,q2,e2),true) ⟨O,a2,rfl,NH,kT F.mi.head sH,rfl⟩ rfl ?_
 rintro⟨i,h3,⟨g,M,out⟩,⟨s,q3,e3,q4,e4⟩,comes⟩ ⟨hi,o,n3,Dy,R,heq⟩;simp only at hi o n3 Dy R heq ⊢;subst n3;conv=>whnf
 apply aC<;>intro ae;all_goals conv=>whnf
 ·have P:out.length < m.code.length:=by omega
  have Gi:out.length < m.aF.length:=by omega
  obtain⟨bs,os,lp,lc,kp,kc,Dv,f1,f2,hJ⟩:=xl k7 Gi;have NI:cF m (out.length:Int)=m.aF[out.length]:=cI (by simpa using Gi);have X:=F.val _ (x_ Gi);have Fg:=eT o.le _ _ _ f1;have S5:=cW o.le f2;have KE:=hJ.le o.hle;have IV:m.code.length-out.length=(m.code.length-(out.length+1))+1:=by omega
  rw[IV]at heq;have S:=λj=>qh (u:=u) (m:=m) (k:=m.code.length-(out.length+1)) (i:=out.length) (s:=s) (comes:=comes) (out:=out) j;have AM:=λj=>rU (u:=u) (m:=m) (k:=m.code.length-(out.length+1)) (i:=out.length) (s:=s) (comes:=comes) (out:=out) j;rw[<-heq,NI]at S AM;generalize m.aF[out.length]=r at Fg S5 KE X S AM;obtain⟨o3,NJ⟩:=o.in;have oh:=λj:r.told=true=>wY ag u.ak.length cc u.ak s r q3 q4 lp kp e3 e4 lc kc h3 (hcs.le o.le (λ_ _ q=>q.le o.le)) ok (Dy.le (fk h3 g)) (KE.le (fk h3 g)) (by have:=(X j).loc;have:=R.loc;omega) (λaa j=>(R.mZ aa j).2) (λaa j=>(R.cA aa j).2) (λaa h2=>((X j).mZ aa h2).2) (λaa h2=>((X j).cA aa h2).2);have m0:=λj:r.told=true=>ue r lp kp lc kc (aV h3 g) KE (by have:=(X j).loc;omega) (by have:=(X j).len;omega);repeat' ((first|refine aL Dv ?_|refine ld S5 ?_|refine ay ?_|refine av ?_|refine ptr ?_)<;>conv=>whnf)
  generalize YN:r.told=rt at Fg S5 oh S AM m0 X ⊢;cases rt
  ·have AM:=AM rfl;cases comes
   ·conv=>whnf
    exact N h3 g M _ out false o rfl O AM
   have b:bK u m=AL u m (m.code.length-(out.length+1)) out.length s out:=AM;have aH:=o;have E:=Dy;have L:=R;conv=>whnf
   have q:=F.mi.code _ (x_ P);have p:0<=(out.length:Int)/\(out.length:Int) < m.code.length:=⟨O,ae⟩
   have H:bM m (out.length:Int)=m.code[out.length]:=cI (by simpa using P);refine(fT.app aH rfl (sJ.of E) O rfl (Nat.le_of_ble_eq_true rfl) (λc x T t l5=>?_));have KF:dw u m (m.code.getD (out.length:Int).toNat dR):=by show dw u m (bM m (out.length:Int));rw[H];exact q
   have I:=Fi out.length s q3 q4 e3 e4 (aV T c) t.hle (E.le l5) L p KF;have W:dY u.ak.length m.locals s (stepT u m (bM m (out.length:Int)) s):=nM hV L (by rw[H];exact q);obtain⟨o5,wB⟩:=t.in;unfold AL at b;change bq _ _ _ _ (λv B=>(aV T c).le B/\qb B v (stepT u m (bM m (out.length:Int)) s))at I
   generalize stepT u m (bM m (out.length:Int)) s=res at I W b;conv=>whnf
   refine iL wB I (λv C l6 a=>?_);have f:=t.aK l6;cases res with
   | none =>
    refine a.elim λw1 a=>a.elim λw2 a=>a.elim λw3 a=>a.elim λw4 a=>a.elim λw5 a=>a.elim λw6 a=>a.elim λw7 d=>?_;subst d;conv=>whnf
    exact N C c x _ (out++[s]) false f Z (by simp;omega) b
   | some e =>
    have IZ:=(W e rfl).1;refine a.elim λJ a=>a.elim λz a=>a.elim λK a=>a.elim λA a=>?_;have d:=a.1;subst d;have V:jL (aV C c) e J K z A:=a.2;have sI:=oV out.length s e _ _ (aV C c) f.hle p L ⟨q3,e3,q4,e4,rfl,(E.le l5).le (bQ c l6)⟩ IZ ⟨J,z,K,A,rfl,V⟩;simp only at b;generalize gO u m (out.length:Int) s e=pt at sI b;obtain⟨o6,zA⟩:=f.in;conv=>whnf
    refine iL zA sI (λv D l7 d=>?_);subst d;have w:=f.aK l7;cases pt
    ·conv=>whnf
     exact N D c x _ (out++[s]) false w Z (by simp;omega) b
    rw[if_pos rfl]at b;obtain⟨bi,oi,vi,AK,w1,w2,w3⟩:=k6.get P;subst w2;have xj:=eT w.le _ _ _ w1;have G:=kU m.code[out.length].kind m.code[out.length].a m.code[out.length].b D;change Pure _ _ _ _ (.bool (eo m.code[out.length]))at G
    rw[H]at b;generalize eo m.code[out.length]=en at G b;conv=>whnf
    repeat' ((first|refine aL AK ?_|refine dZ xj ?_|refine au G ?_|refine ay ?_|refine av ?_|refine ptr ?_)<;>conv=>whnf)
    exact cL (out.length+1,D,(c,x,out++[s]),(e,J,z,K,A),!en) ⟨by simp only;omega,w,Z,V.le (bQ c l7),IZ,b⟩ (by simp only;omega) rfl
  have S:=S rfl;have L:=X rfl;have oh:=oh rfl;have m0:=m0 rfl;cases comes
  ·have b:bK u m=AL u m (m.code.length-(out.length+1)) out.length r out:=S;conv=>whnf
   repeat' ((first|exact trivial|apply T_|refine ay ?_|refine aL Dv ?_|refine dZ Fg ?_)<;>conv=>whnf)
   all_goals
    refine iL NJ m0 (λv h4 l4 a=>?_);have aH:=o.aK l4;refine a.elim λx1 a=>a.elim λy1 a=>a.elim λx2 a=>a.elim λy2 a=>?_;have d:=a.1;subst d;have E:jL (aV h4 g) r x1 x2 y1 y2:=a.2;conv=>whnf
    have q:=F.mi.code _ (x_ P);have p:0<=(out.length:Int)/\(out.length:Int) < m.code.length:=⟨O,ae⟩
    have H:bM m (out.length:Int)=m.code[out.length]:=cI (by simpa using P);refine(fT.app aH rfl (sJ.of E) O rfl (Nat.le_of_ble_eq_true rfl) (λc x T t l5=>?_));have KF:dw u m (m.code.getD (out.length:Int).toNat dR):=by show dw u m (bM m (out.length:Int));rw[H];exact q
    have I:=Fi out.length r x1 x2 y1 y2 (aV T c) t.hle (E.le l5) L p KF;have W:dY u.ak.length m.locals r (stepT u m (bM m (out.length:Int)) r):=nM hV L (by rw[H];exact q);obtain⟨o5,wB⟩:=t.in;unfold AL at b;change bq _ _ _ _ (λv B=>(aV T c).le B/\qb B v (stepT u m (bM m (out.length:Int)) r))at I
    generalize stepT u m (bM m (out.length:Int)) r=res at I W b;conv=>whnf
    refine iL wB I (λv C l6 a=>?_);have f:=t.aK l6;cases res with
    | none =>
     refine a.elim λw1 a=>a.elim λw2 a=>a.elim λw3 a=>a.elim λw4 a=>a.elim λw5 a=>a.elim λw6 a=>a.elim λw7 d=>?_;subst d;conv=>whnf
     exact N C c x _ (out++[r]) false f Z (by simp;omega) b
    | some e =>
     have IZ:=(W e rfl).1;refine a.elim λJ a=>a.elim λz a=>a.elim λK a=>a.elim λA a=>?_;have d:=a.1;subst d;have V:jL (aV C c) e J K z A:=a.2;have sI:=oV out.length r e _ _ (aV C c) f.hle p L ⟨x1,y1,x2,y2,rfl,(E.le l5).le (bQ c l6)⟩ IZ ⟨J,z,K,A,rfl,V⟩;simp only at b;generalize gO u m (out.length:Int) r e=pt at sI b;obtain⟨o6,zA⟩:=f.in;conv=>whnf
     refine iL zA sI (λv D l7 d=>?_);subst d;have w:=f.aK l7;cases pt
     ·conv=>whnf
      exact N D c x _ (out++[r]) false w Z (by simp;omega) b
     rw[if_pos rfl]at b;obtain⟨bi,oi,vi,AK,w1,w2,w3⟩:=k6.get P;subst w2;have xj:=eT w.le _ _ _ w1;have G:=kU m.code[out.length].kind m.code[out.length].a m.code[out.length].b D;change Pure _ _ _ _ (.bool (eo m.code[out.length]))at G
     rw[H]at b;generalize eo m.code[out.length]=en at G b;conv=>whnf
     repeat' ((first|refine aL AK ?_|refine dZ xj ?_|refine au G ?_|refine ay ?_|refine av ?_|refine ptr ?_)<;>conv=>whnf)
     exact cL (out.length+1,D,(c,x,out++[r]),(e,J,z,K,A),!en) ⟨by simp only;omega,w,Z,V.le (bQ c l7),IZ,b⟩ (by simp only;omega) rfl
  generalize oS u.ak s r=YO at oh S;cases YO
  ·conv=>whnf
   repeat' ((first|exact trivial|exact N h3 g M _ out false o rfl O S|apply T_|refine ay ?_|refine aL Dv ?_|refine dZ Fg ?_|refine aP oh ?_)<;>conv=>whnf)
  have b:bK u m=AL u m (m.code.length-(out.length+1)) out.length r out:=S;conv=>whnf
  repeat' ((first|exact trivial|apply T_|refine ay ?_|refine aL Dv ?_|refine dZ Fg ?_|refine aP oh ?_)<;>conv=>whnf)
  all_goals
   refine iL NJ m0 (λv h4 l4 a=>?_);have aH:=o.aK l4;refine a.elim λx1 a=>a.elim λy1 a=>a.elim λx2 a=>a.elim λy2 a=>?_;have d:=a.1;subst d;have E:jL (aV h4 g) r x1 x2 y1 y2:=a.2;conv=>whnf
   have q:=F.mi.code _ (x_ P);have p:0<=(out.length:Int)/\(out.length:Int) < m.code.length:=⟨O,ae⟩
   have H:bM m (out.length:Int)=m.code[out.length]:=cI (by simpa using P);refine(fT.app aH rfl (sJ.of E) O rfl (Nat.le_of_ble_eq_true rfl) (λc x T t l5=>?_));have KF:dw u m (m.code.getD (out.length:Int).toNat dR):=by show dw u m (bM m (out.length:Int));rw[H];exact q
   have I:=Fi out.length r x1 x2 y1 y2 (aV T c) t.hle (E.le l5) L p KF;have W:dY u.ak.length m.locals r (stepT u m (bM m (out.length:Int)) r):=nM hV L (by rw[H];exact q);obtain⟨o5,wB⟩:=t.in;unfold AL at b;change bq _ _ _ _ (λv B=>(aV T c).le B/\qb B v (stepT u m (bM m (out.length:Int)) r))at I
   generalize stepT u m (bM m (out.length:Int)) r=res at I W b;conv=>whnf
   refine iL wB I (λv C l6 a=>?_);have f:=t.aK l6;cases res with
   | none =>
    refine a.elim λw1 a=>a.elim λw2 a=>a.elim λw3 a=>a.elim λw4 a=>a.elim λw5 a=>a.elim λw6 a=>a.elim λw7 d=>?_;subst d;conv=>whnf
    exact N C c x _ (out++[r]) false f Z (by simp;omega) b
   | some e =>
    have IZ:=(W e rfl).1;refine a.elim λJ a=>a.elim λz a=>a.elim λK a=>a.elim λA a=>?_;have d:=a.1;subst d;have V:jL (aV C c) e J K z A:=a.2;have sI:=oV out.length r e _ _ (aV C c) f.hle p L ⟨x1,y1,x2,y2,rfl,(E.le l5).le (bQ c l6)⟩ IZ ⟨J,z,K,A,rfl,V⟩;simp only at b;generalize gO u m (out.length:Int) r e=pt at sI b;obtain⟨o6,zA⟩:=f.in;conv=>whnf
    refine iL zA sI (λv D l7 d=>?_);subst d;have w:=f.aK l7;cases pt
    ·conv=>whnf
     exact N D c x _ (out++[r]) false w Z (by simp;omega) b
    rw[if_pos rfl]at b;obtain⟨bi,oi,vi,AK,w1,w2,w3⟩:=k6.get P;subst w2;have xj:=eT w.le _ _ _ w1;have G:=kU m.code[out.length].kind m.code[out.length].a m.code[out.length].b D;change Pure _ _ _ _ (.bool (eo m.code[out.length]))at G
    rw[H]at b;generalize eo m.code[out.length]=en at G b;conv=>whnf
    repeat' ((first|refine aL AK ?_|refine dZ xj ?_|refine au G ?_|refine ay ?_|refine av ?_|refine ptr ?_)<;>conv=>whnf)
    exact cL (out.length+1,D,(c,x,out++[r]),(e,J,z,K,A),!en) ⟨by simp only;omega,w,Z,V.le (bQ c l7),IZ,b⟩ (by simp only;omega) rfl
 have he:out.length=m.code.length:=by omega
 rw[he,Nat.sub_self]at heq;exact N h3 g M _ out _ o rfl O heq
end Go.Proofs
