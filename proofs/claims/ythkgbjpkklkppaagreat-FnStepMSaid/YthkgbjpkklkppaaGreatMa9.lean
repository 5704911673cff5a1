/- Part 9 of the lemmas on which the law rests: what functions of the program and of the reference do; no conditions but those that each lemma states. -/
import Derived.Test.YthkgbjpkklkppaaGreatMa8
set_option linter.unusedSimpArgs false
set_option linter.unusedVariables false
namespace Go.Proofs
open Go.Vc Go.Proofs.Tryz
set_option maxRecDepth 100000
set_option maxHeartbeats 4000000
theorem dR.spot {J:Type} {R:Heap->List Value->J->List Nat->Prop} (q:Kept R) {sz:Nat} {h:Heap} {v:Value} {l:List J} {B:List Nat} (i:dR R sz h v l B) (nd:Nd B) {k:Nat} (u:k < l.length) :
  ∃ b c pre x post t C,v=.slice (some ⟨b,0,none⟩) l.length c/\l.length<=c/\h b=some (.cells (pre++x++post).toArray t (0,0))/\pre.length=k*sz/\x.length=sz/\R h x l[k] C/\b∈B/\b ∉ C/\(∀ y∈C,y∈B)/\Nd C /\
  ∀ h' x' g j,x'.length=sz->h' b=some (.cells (pre++x'++post).toArray t (0,0))->R h' x' g j->(∀ y∈B,y≠b->y ∉ C->h' y=h y)->∃ B',dR R sz h' v (l.set k g) B':=by
 obtain⟨xs,B0,B1,⟨m,i⟩,z,rfl⟩:=i;have w:=z.len;rcases i with ⟨rfl,rfl,_⟩|⟨b,c,rest,t,rfl,T,P,S,rfl⟩
 ·simp at w;omega
 have M:l=l.take k++l[k]::l.drop (k+1):=by rw[<-List.drop_eq_getElem_cons u,List.take_append_drop]
 have D:=z;rw[M]at D;obtain⟨f,d,A,aa,rfl,rfl,I,r2⟩:=Rows.split D;have OD:f.length=k:=by rw[I.len,List.length_take];omega
 cases r2 with
 | @cons x ab C d l2 e q1 q2 =>
 have V:(f++x::d).flatten++rest=f.flatten++x++(d.flatten++rest):=by simp
 have G:x.length=sz:=m x Z;have Y:f.flatten.length=k*sz:=by rw[bQ (λy a=>m y (by simp[a])),OD]
 have p:∀ y∈C,y ∉ A/\y ∉ e/\y≠b:=λy a=>by
  have:=nd y;have h1:=List.count_pos_iff.2 a;simp only[List.count_append,List.count_cons,List.count_nil]at this;refine⟨λh=>?_,λh=>?_,λh=>?_⟩
  ·have:=List.count_pos_iff.2 h;omega
  ·have:=List.count_pos_iff.2 h;omega
  subst h;simp at this;omega
 have ndb:∀ y,y∈A\/y∈e->y≠b:=λy a K=>by
  subst K;have:=nd y;simp only[List.count_append,List.count_cons,List.count_nil]at this;simp at this;rcases a with a|a<;>have:=List.count_pos_iff.2 a<;>omega
 refine⟨b,c,f.flatten,x,d.flatten++rest,t,C,by rw[w],O,by rw[P,V],Y,G,q1,Z,λX=>(p b X).2.2 rfl,λy a=>by simp[a],λy=>?_,λh' x' g j F Q N W=>?_⟩
 ·have:=nd y;simp only[List.count_append]at this;omega
 have H:∀ E:List Nat,(∀ y∈E,y∈A\/y∈e)->cD h h' E:=λE o y a ad i=>by
  rw[W y (by rcases o y a with h|h<;>simp[h]) (ndb y (o y a)) (λs=>by rcases o y a with h|h;exact(p y s).1 h;exact(p y s).2.1 h)];exact i
 have hl2:(x'::d).length=(x::d).length:=by simp
 refine⟨[b]++(A++(j++e)),f++x'::d,[b],A++(j++e),⟨λy a=>?_,.inr ⟨b,c,rest,t,Z,by simpa using T,by rw[Q];simp,?_,rfl⟩⟩,?_,rfl⟩
 ·rcases List.mem_append.1 a with a|a
  ·exact m y (by simp[a])
  rcases List.mem_cons.1 a with rfl|a
  ·exact F
  exact m y (by simp[a])
 ·rw[<-S];simp[F,G]
 have L:l.set k g=l.take k++g::l.drop (k+1):=by rw[List.set_eq_take_append_cons_drop,if_pos u]
 rw[L];exact(I.aJ q (H A λy a=>.inl a)).app (.cons N (q2.aJ q (H e λy a=>.inr a)))
theorem bW.spot {sz:Nat} {h:Heap} {v:Value} {xs:List (List Value)} {B:List Nat} (d:bW sz h v xs B) (e:0 < xs.length) :
  ∃ b c post t,v=.slice (some ⟨b,0,none⟩) xs.length c/\B=[b]/\h b=some (.cells ([]++xs[0]++post).toArray t (0,0))/\xs[0].length=sz /\
  ∀ h' x',x'.length=sz->h' b=some (.cells ([]++x'++post).toArray t (0,0))->bW sz h' v (xs.set 0 x') [b]:=by
 obtain⟨g,d⟩:=d;rcases d with ⟨rfl,rfl,_⟩|⟨b,c,rest,t,rfl,p,j,o,rfl⟩
 ·simp at e
 cases xs with
 | nil=>simp at e
 | cons x xs =>
  have i:x.length=sz:=g x Z;refine⟨b,c,xs.flatten++rest,t,rfl,rfl,by rw[j];simp,i,λh' x' f m=>⟨λy a=>?_,.inr ⟨b,c,rest,t,Z,by simpa using p,by rw[m];simp,by rw[<-o];simp[f,i],rfl⟩⟩⟩;simp only[List.set_cons_zero,List.mem_cons]at a;rcases a with rfl|a
  ·exact f
  exact g y (by simp[a])
structure JR (M:bH):Prop where
 objs:M.objs.length<=100000
 au:M.au.length<=100000
 said:M.said.length<=100000
 ob:∀ o∈M.objs,o.bp.length<=100000
 fr:∀ f∈M.au,f.locals.length<=100000/\f.stack.length<=100000
 head:uT M
theorem JR.small {M:bH} (h:JR M):Small M:=⟨by have:=h.objs;omega,by have:=h.au;omega,by have:=h.said;omega,λo b=>by have:=h.ob o b;omega,λf a=>by have:=h.fr f a;omega⟩
theorem mE.sml {u:aS} (c:cC u) {M:bH} (h:mE u M):M.objs.length<=1000/\M.au.length<=1000/\M.said.length<=1000/\(∀ o∈M.objs,o.bp.length<=1000)/\∀ f∈M.au,f.locals.length<=1000/\f.stack.length<=1000:=by
 refine⟨by have:=h.len;omega,by have:=h.nf;omega,by have:=h.iS;omega,λo e=>?_,λf d=>?_⟩
 ·rcases(h.objs o e).2 with ⟨_,b⟩|⟨_,b,g⟩
  ·omega
  have:=ec c.1 b;omega
 have a:=h.gh f d;have:=(c.aY a.1).1.2.2.2.2.1;have:=a.2.2.1;have:=a.2.2.2.1;omega
theorem JR.same {M M':bH} (h:JR M) (b:M'.objs=M.objs) (a:M'.au=M.au) (c:M'.said=M.said):JR M':=⟨by rw[b];exact h.objs,by rw[a];exact h.au,by rw[c];exact h.said,by rw[b];exact h.ob,by rw[a];exact h.fr,by unfold uT;rw[a];exact h.head⟩
def Lit (M:bH):Prop:=M.objs.length<=1000/\M.au.length<=1000/\(M.said.length<=1000/\uT M)/\(∀ o∈M.objs,o.bp.length<=1000)/\∀ f∈M.au,(f.locals.length<=1000/\f.stack.length<=1000)/\0<=f.pc/\f.pc<=1000
theorem Lit.uJ {M:bH} (h:Lit M):JR M:=⟨by have:=h.1;omega,by have:=h.2.1;omega,by have:=h.2.2.1;omega,λo b=>by have:=h.2.2.2.1 o b;omega,λf a=>by have:=h.2.2.2.2 f a;omega,h.2.2.1.2⟩
theorem wO.small {u:aS} {x:Int} {R:bH} (h:wO u x R):Lit R:=by
 by_cases a:zS u x
 ·rw[h.1 a];have c:=GD a.1 x.toNat (by have:=a.2;omega);obtain⟨e,g,i,j,m⟩:=c.ok.sml a.1;refine⟨e,g,⟨i,sy u _⟩,j,λf d=>⟨m f d,?_⟩⟩;have b:=c.ok.gh f d;have:=b.2.1;have:=(a.1.aY b.1).2.1.2.1;omega
 rw[h.2 a];simp[Lit,ie,uT]
def yB (R M:bH):Prop:=M.au.length=R.au.length/\∀ i (a:i < M.au.length) (b:i < R.au.length),M.au[i].aC=R.au[i].aC/\(M.au[i].pc=R.au[i].pc\/i=0/\M.au[i].pc=R.au[i].pc+1)
theorem yB.same {R M:bH} (h:M.au=R.au):yB R M:=⟨by rw[h],λi a b=>by simp only[h];exact⟨trivial,.inl trivial⟩⟩
theorem yB.set {R M:bH} {pc:Int} {a b:List Vl} (g:0 < R.au.length) (h:M.au=R.au.set 0 ⟨R.au[0].aC,pc,a,b⟩) (c:pc=R.au[0].pc\/pc=R.au[0].pc+1):yB R M :=
 ⟨by rw[h];simp,λi d f=>by
  simp only[h];by_cases e:i=0
  ·subst e;simp only[List.getElem_set_self];exact⟨trivial,c.imp id λh=>⟨trivial,h⟩⟩
  rw[List.getElem_set_ne (λx=>e x.symm)];exact⟨rfl,.inl rfl⟩⟩
theorem Eu {u:aS} {x:Int} {R M:bH} (D:wO u x R) (V:vw u.methods) (t:yB R M) (d:cC u):iq u M.au false:=by
 intro a P k hs e;have hl:=t.1;have L:a.length < M.au.length:=by rw[e];simp
 have N:a.length+1 < M.au.length:=by rw[e];simp
 have Q:M.au[a.length]=P:=by simp only[e];simp
 have S:M.au[a.length+1]=k:=by simp only[e];simp
 obtain⟨p,f⟩:=t.2 a.length L O;obtain⟨q,_⟩:=t.2 (a.length+1) N O;rw[Q]at p f;rw[S]at q;have w:zS u x:=Classical.byContradiction λo=>by
  have:=D.2 o;rw[this]at hl;have C:ie.au.length=0:=rfl;omega
 have W:=D.1 w;have v:=GD w.1 x.toNat (by have:=w.2;omega);have E:=sy u x.toNat;rw[<-W]at v E;have IX:R.au=R.au.take a.length++R.au[a.length]'O::R.au[a.length+1]'O::R.au.drop (a.length+1+1):=by
  rw[<-List.drop_eq_getElem_cons,<-List.drop_eq_getElem_cons,List.take_append_drop]
 obtain⟨i,b⟩:=v.link _ _ _ _ IX;have i:=i.resolve_right λhx=>by cases hx.1
 have b:=b rfl;have J:=v.ok.gh _ (List.getElem_mem (show a.length < R.au.length by omega));have F:a.length=0->(R.au[a.length]'O).aC=0:=λC=>E _ (by
  rw[List.head?_eq_getElem?,List.getElem?_eq_getElem O];simp[C])
 generalize R.au[a.length]'O=g at p f i b J F;generalize R.au[a.length+1]'O=f2 at q b;refine⟨?_,nofun⟩;rw[p];rcases f with f|⟨K,f⟩
 ·exact .inl O
 by_cases LN:g.pc+1 < (aY u g.aC).code.length
 ·exact .inl O
 right
 refine⟨rfl,?_⟩;rw[q];rw[F K]at i b LN;have PF:(0:Int)<=0/\(0:Int) < u.methods.length:=⟨O,by have:=d.2.1.1;omega⟩
 obtain⟨I,y,j,H⟩:=V (aY u 0) (by
  have m:0 < u.methods.length:=by omega
  have e:=fm (u:=u) m (show(0:Int)=((0:Nat):Int)from rfl);rw[e,List.getElem?_eq_getElem m])
 have hp0:0<=g.pc:=J.2.1.1;have hlen:(aY u 0).code.length=I.length+1:=by rw[j];simp
 have m:g.pc.toNat=I.length:=by omega
 have T:(aY u 0).code.getD g.pc.toNat dj=y:=by rw[j,m];simp
 rw[T]at b;have hyT:ej u (aY u 0) y:=(d.aY PF).2.1.2.2.2.1 y (by rw[j];simp);rcases b with ⟨IS,ka⟩|⟨B,_,_,Y⟩
 ·obtain⟨z,A,o,_⟩:=H (.inl IS);rw[show f2.aC=0 by omega,j];intro aa h;rcases List.mem_append.1 h with h|h
  ·exact o aa h
  rw[List.mem_singleton.1 h];omega
 obtain⟨z,A,o,X⟩:=H (.inr B);exfalso;obtain⟨kk,ya,yb⟩:=y;simp only at B z A Y;subst B z A;have H7:=d.1.1;have G:=oB d.1 (s:=0) 1 (c:=0) O O O;have h1:=KB d.1 O G.1;have h2:=nx d.1 (s:=0) (c:=0) O O;exact X _ (fB ⟨O,G.2.2⟩) O
theorem HD {u:aS} {x:Int} {R:bH} (c:wO u x R):cC u->mE u R->iq u R.au false:=λ_ _ h g k i e=>by
 have a:zS u x:=Classical.byContradiction λd=>by
  have:=c.2 d;rw[this]at e;simp[ie]at e
 have b:=GD a.1 x.toNat (by have:=a.2;omega);rw[<-c.1 a]at b;exact⟨.inl ((b.link _ _ _ _ e).1.resolve_right λf=>by cases f.1),nofun⟩
def M7 (g:Heap) (v:Value):Prop:=∃ b u a M B,v=.tuple #[.agg ⟨b⟩,.agg ⟨a⟩]/\cZ g b u/\eX g a M B/\JR M/\(cC u->mE u M->iq u M.au false)
def UM (R:bH) (b:Heap) (a:Nat) (g:Heap) (mc:List Value):Prop:=b.le g/\g a=none/\∃ M B,eX g mc M B/\JR M/\yB R M
theorem UM.fin {g c f:Heap} {a:Nat} {vb:Value} {p q:Int} {e mc:List Value} {u:aS} {R:bH} (h:UM R c a f mc) (v:g.le c) (w:cZ c e u) (s:∀ M,yB R M->cC u->iq u M.au false) (m:p<=q) (o:q<=p+12000):∃ b d,cN f a vb q=cN b a vb d/\g.le b/\b a=none/\p<=d/\d<=p+12000/\M7 b (.tuple #[.agg ⟨e⟩,.agg ⟨mc⟩]):=by
 obtain⟨l,i,M,B,x,y,j⟩:=h;exact⟨_,_,rfl,Heap.le_trans v l,i,m,o,e,u,mc,M,B,rfl,w.le l,x,y,λt _=>s M j t⟩
theorem HE {l:List bL} (d:0 < l.length) {pc:Int} {a b:List Vl} (h:∀ f,l.head? = some f->f.aC=0):∀ g,(l.set 0 ⟨l[0].aC,pc,a,b⟩).head? = some g->g.aC=0:=by
 intro g c;cases l with
 | nil=>cases c
 | cons x r =>
  simp only[List.set_cons_zero,List.head?_cons,Option.some.injEq]at c;rw[<-c];exact h x rfl
structure MD (g2 g3:Heap) (bb:Nat) (R:bH) (po:Option Addr) (co:Nat) (pf:Option Addr) (cf:Nat) (pw:Option Addr) (cw:Nat) (B1 B2 B3:List Nat):Prop where
 l3:g2.le g3
 free:g3 bb=none
 o1:dR jt 2 g3 (.slice po R.objs.length co) R.objs B1
 o2:dR mo 4 g3 (.slice pf R.au.length cf) R.au B2
 o3:dI g3 (.slice pw R.said.length cw) R.said B3
 nd:Nd (B1++B2++B3)
 fr:∀ b∈B1++B2++B3,g2 b=none
 lit:Lit R
section
variable {g2 g3:Heap} {bb:Nat} {R:bH} {po pf pw:Option Addr} {co cf cw:Nat} {B1 B2 B3:List Nat}
theorem MD.sep (m:MD g2 g3 bb R po co pf cf pw cw B1 B2 B3):(∀ y∈B1,y ∉ B2/\y ∉ B3)/\(∀ y∈B2,y ∉ B1/\y ∉ B3)/\∀ y∈B3,y ∉ B1/\y ∉ B2:=by
 refine⟨λy a=>?_,λy a=>?_,λy a=>?_⟩;all_goals
  have:=m.nd y;have b:=List.count_pos_iff.2 a;simp only[List.count_append]at this;exact⟨λh=>by have:=List.count_pos_iff.2 h;omega,λh=>by have:=List.count_pos_iff.2 h;omega⟩
theorem MD.Ut (m:MD g2 g3 bb R po co pf cf pw cw B1 B2 B3):Nd B1:=λa=>by have:=m.nd a;simp only[List.count_append]at this;omega
theorem MD.NF (m:MD g2 g3 bb R po co pf cf pw cw B1 B2 B3):Nd B2:=λa=>by have:=m.nd a;simp only[List.count_append]at this;omega
theorem MD.i1 (m:MD g2 g3 bb R po co pf cf pw cw B1 B2 B3):∀ b∈B1,g2 b=none/\∃ o,g3 b=some o:=λb a=>⟨m.fr b (by simp[a]),m.o1.in vH b a⟩
theorem MD.i2 (m:MD g2 g3 bb R po co pf cf pw cw B1 B2 B3):∀ b∈B2,g2 b=none/\∃ o,g3 b=some o:=λb a=>⟨m.fr b (by simp[a]),m.o2.in Nv b a⟩
theorem MD.i3 (m:MD g2 g3 bb R po co pf cf pw cw B1 B2 B3):∀ b∈B3,g2 b=none/\∃ o,g3 b=some o:=λb a=>⟨m.fr b (by simp[a]),m.o3.in b a⟩
theorem Ib {g3 a:Heap} {A:List Nat} (b:∀ y∈A,a y=g3 y):cD g3 a A:=λy d o c=>by rw[b y d];exact c
abbrev M8 (R:bH) (po:Option Addr) (co:Nat) (pf:Option Addr) (cf:Nat) (vs:Value) (st fi:Int) (o:Vl):List Value:=[.slice po R.objs.length co,.slice pf R.au.length cf,vs,.int .i64 st,.int .i64 fi,.bool o.ref,.int .i64 o.n]
theorem MD.same (m:MD g2 g3 bb R po co pf cf pw cw B1 B2 B3) (st a:Int) (o:Vl):UM R g2 bb g3 (M8 R po co pf cf (.slice pw R.said.length cw) st a o) :=
 ⟨m.l3,m.free,{R with steps:=st,fin:=a,out:=o},_,⟨_,_,_,B1,B2,B3,rfl,m.o1,m.o2,m.o3,rfl⟩,m.lit.uJ.same rfl rfl rfl,.same rfl⟩
theorem MD.obj {K:Prop} (m:MD g2 g3 bb R po co pf cf pw cw B1 B2 B3) {k:Nat} (I:k < R.objs.length)
  (T:∀(b:Nat) (c:Int) (u:Option Addr) (o:Nat) (pre post:List Value) (t:TypeId) (C:List Nat) (l:List Vl),po=some ⟨b,0,none⟩->g3 b=some (.cells (pre++[Value.int .i64 c,.slice u (l.map bM).length o]++post).toArray t (0,0))->pre.length=k*2->bR g3 (.slice u (l.map bM).length o) l C->(∀ z∈C,g2 z=none)->b ∉ C->l.length<=1000 ->
   (∀(d:Heap) (f:Int) (v:Value) (q:List Vl) (j:List Nat),g2.le d->d bb=none->bR d v q j->q.length<=1001->(∀ z,z ∉ C->g3 z≠none->d z=g3 z)->(∀ z∈j,z∈C\/g3 z=none) ->
    d b=some (.cells (pre++[Value.int .i64 c,.slice u (l.map bM).length o]++post).toArray t (0,0))/\UM R g2 bb (d.set b (.cells (pre++[Value.int .i64 f,v]++post).toArray t (0,0))) (M8 R po co pf cf (.slice pw R.said.length cw) R.steps R.fin R.out))->K):K:=by
 obtain⟨b,c,pre,w0,post,t,C,J,hc,p,X,LS,V,D,E,B,M9,put⟩:=m.o1.spot gP m.Ut I;simp only[Value.slice.injEq]at J;obtain⟨rfl,_,rfl⟩:=J;obtain⟨aa,rfl,M⟩:=V;obtain⟨u,o,rfl,Km⟩:=bW.form M;obtain⟨s1,N,P⟩:=m.sep;refine T b _ u o pre post t C _ rfl p X M (λz a=>(m.i1 z (B z a)).1) E (m.lit.2.2.2.1 _ (List.getElem_mem I)) λd f v q j l5 f5 ow5 XD L Y=>?_;have H:d b=g3 b:=L b E (by rw[p];simp);refine⟨by rw[H];exact p,?_⟩;obtain⟨g,w⟩:∃ g,g=d.set b (.cells (pre++[Value.int .i64 f,v]++post).toArray t (0,0)):=⟨_,rfl⟩
 rw[<-w];have x:∀ z,z≠b->g z=d z:=λz a=>by rw[w];simp[Heap.set,a]
 have W:bb≠b:=by rintro rfl;rw[H,p]at f5;cases f5
 have le9:g2.le g:=by rw[w];exact Heap.aR l5 (m.i1 b D).1
 have V2:∀ z∈j,z≠b:=λz a e=>by
  rcases Y z a with h|h
  ·exact E (e ▸ h)
  rw[e,p]at h;cases h
 have G:∀ z,z≠b->z ∉ C->(∃ s,g3 z=some s)->g z=g3 z:=λz y A ⟨s,S⟩=>by rw[x z y,L z A (by rw[S];simp)]
 obtain⟨Q,V3⟩:=put g [.int .i64 f,v] ⟨f,q⟩ j rfl (by rw[w];exact cB _ _ _) ⟨_,rfl,ow5.aJ λz a s F=>by rw[x z (V2 z a)];exact F⟩ (λz a y A=>G z y A (m.i1 z a).2);refine⟨le9,by rw[x bb W];exact f5,{R with objs:=R.objs.set k ⟨f,q⟩},_,⟨_,_,_,Q,B2,B3,Z,V3,m.o2.aJ jL (Ib λz a=>G z (λe=>(N z a).1 (e ▸ D)) (λe=>(N z a).1 (B z e)) (m.i2 z a).2),m.o3.aJ (Ib λz a=>G z (λe=>(P z a).1 (e ▸ D)) (λe=>(P z a).1 (B z e)) (m.i3 z a).2),rfl⟩,?_⟩;have i:=m.lit;refine⟨⟨by have:=i.1;simp;omega,i.uJ.au,i.uJ.said,λs F=>?_,i.uJ.fr,i.uJ.head⟩,.same rfl⟩;rcases List.mem_or_eq_of_mem_set F with h|rfl
 ·exact i.uJ.ob s h
 simp only;omega
theorem MD.say (m:MD g2 g3 bb R po co pf cf pw cw B1 B2 B3) {a:Heap} {v:Value} {l:List Int} {B:List Nat} (g:g2.le a) (f5:a bb=none) (o:dI a v l B) (j:l.length<=1001) (f:∀ z,z ∉ B3->g3 z≠none->a z=g3 z):UM R g2 bb a (M8 R po co pf cf v R.steps R.fin R.out):=by
 obtain⟨h,i,p⟩:=m.sep;have c:∀ z,z ∉ B3->(∃ o,g3 z=some o)->a z=g3 z:=λz d ⟨o,e⟩=>f z d (by rw[e];simp);exact⟨g,f5,{R with said:=l},_,⟨_,_,_,B1,B2,B,rfl,m.o1.aJ gP (Ib λz b=>c z (h z b).2 (m.i1 z b).2),m.o2.aJ jL (Ib λz b=>c z (i z b).2 (m.i2 z b).2),o,rfl⟩,⟨m.lit.uJ.objs,m.lit.uJ.au,by simp only;omega,m.lit.uJ.ob,m.lit.uJ.fr,m.lit.uJ.head⟩,.same rfl⟩
theorem MD.gh {K:Prop} (m:MD g2 g3 bb R po co pf cf pw cw B1 B2 B3) (v:0 < R.au.length)
  (W:∀(b:Nat) (mt pc:Int) (N:Value) (y:Option Addr) (u:Nat) (post:List Value) (t:TypeId) (d e:List Nat) (I w:List Vl),pf=some ⟨b,0,none⟩->g3 b=some (.cells ([]++[Value.int .i64 mt,.int .i64 pc,N,.slice y (w.map bM).length u]++post).toArray t (0,0))->bR g3 N I d->bR g3 (.slice y (w.map bM).length u) w e->(∀ z∈d++e,g2 z=none)->b ∉ d++e->Nd (d++e)->I.length<=1000->w.length<=1000->(0<=pc/\pc<=1000) ->
   (∀(c:Heap) (h:Int) (i j:Value) (o p:List Vl) (q s:List Nat),g2.le c->c bb=none->c b=some (.cells ([]++[Value.int .i64 mt,.int .i64 h,i,j]++post).toArray t (0,0))->bR c i o q->bR c j p s->o.length<=1001->p.length<=1001->(∀ z,z≠b->z ∉ d++e->g3 z≠none->c z=g3 z)->(h=pc\/h=pc+1) ->
    UM R g2 bb c (M8 R po co pf cf (.slice pw R.said.length cw) R.steps R.fin R.out))->K):K:=by
 obtain⟨b,ab,pre,w0,post,t,aa,H,hc,Y,wB,LS,X,G,hbC,C,M9,put⟩:=m.o2.spot jL m.NF v;simp only[Value.slice.injEq]at H;obtain⟨rfl,_,rfl⟩:=H;obtain⟨i,j,d,e,rfl,Tc,J,rfl⟩:=X;obtain⟨y,u,rfl,Km⟩:=bW.form J;obtain⟨L,s2,M⟩:=m.sep;obtain rfl:pre=[]:=List.eq_nil_of_length_eq_zero O;have g:=m.lit;have E:=g.2.2.2.2 _ (List.getElem_mem v);refine W b _ _ i y u post t d e _ _ rfl Y Tc J (λz a=>(m.i2 z (C z a)).1) hbC M9 E.1.1 E.1.2 E.2 λc h i j o p q s l9 f9 V V3 F n1 n2 k9 V4=>?_;have D:∀ z,z≠b->z ∉ d++e->(∃ x,g3 z=some x)->c z=g3 z:=λz A B ⟨x,T⟩=>k9 z A B (by rw[T];simp);obtain⟨P,F⟩:=put c [.int .i64 R.au[0].aC,.int .i64 h,i,j] ⟨R.au[0].aC,h,o,p⟩ (q++s) rfl V ⟨i,j,q,s,rfl,V3,F,rfl⟩ (λz a A B=>D z A B (m.i2 z a).2);refine⟨l9,f9,{R with au:=R.au.set 0 ⟨R.au[0].aC,h,o,p⟩},_,⟨_,_,_,B1,P,B3,Z,m.o1.aJ gP (Ib λz a=>D z (λf=>(L z a).1 (f ▸ G)) (λf=>(L z a).1 (C z f)) (m.i1 z a).2),F,m.o3.aJ (Ib λz a=>D z (λf=>(M z a).2 (f ▸ G)) (λf=>(M z a).2 (C z f)) (m.i3 z a).2),rfl⟩,?_⟩;refine⟨⟨g.uJ.objs,by have:=g.2.1;simp;omega,g.uJ.said,g.uJ.ob,λx ho=>?_,λQ hg=>?_⟩,yB.set v rfl V4⟩;rotate_left
 ·exact HE v g.uJ.head Q hg
 rcases List.mem_or_eq_of_mem_set ho with S|rfl
 ·exact g.uJ.fr x S
 simp only;omega
theorem MD.XY (m:MD g2 g3 bb R po co pf cf pw cw B1 B2 B3) (d:0 < R.au.length) {b:Nat} (e:pf=some ⟨b,0,none⟩):g2 b=none:=by
 obtain⟨f,_,_,_,_,_,_,a,_,_,_,_,_,c,_⟩:=m.o2.spot jL m.NF d;rw[e]at a;simp only[Value.slice.injEq,Option.some.injEq,Addr.mk.injEq,and_true]at a;rw[a.1];exact(m.i2 _ c).1
theorem Na {K:Prop} {vb:Value} {b:Nat} {mt pc:Int} {q D:Option Addr} {u s:Nat} {post:List Value} {t:TypeId} {g c:List Nat} {e i:List Vl} (m:MD g2 g3 bb R po co pf cf pw cw B1 B2 B3) (Q:0 < e.length)
  (M:g3 b=some (.cells ([]++[Value.int .i64 mt,.int .i64 pc,.slice q (e.map bM).length u,.slice D (i.map bM).length s]++post).toArray t (0,0))) (W:bR g3 (.slice q (e.map bM).length u) e g) (X:bR g3 (.slice D (i.map bM).length s) i c) (J:∀ z∈g++c,g2 z=none) (N:b ∉ g++c) (V:Nd (g++c)) (ha:e.length<=1000) (oU:i.length<=1000)
  (put:∀(d:Heap) (p:Int) (E F:Value) (A B:List Vl) (G H:List Nat),g2.le d->d bb=none->d b=some (.cells ([]++[Value.int .i64 mt,.int .i64 p,E,F]++post).toArray t (0,0))->bR d E A G->bR d F B H->A.length<=1001->B.length<=1001->(∀ z,z≠b->z ∉ g++c->g3 z≠none->d z=g3 z)->(p=pc\/p=pc+1)->UM R g2 bb d (M8 R po co pf cf (.slice pw R.said.length cw) R.steps R.fin R.out))
  (L:∀(a:Nat) (f:List Value) (t1:TypeId),q=some ⟨a,0,none⟩->g3 a=some (.cells ([]++bM e[0]++f).toArray t1 (0,0))->(∀ y,UM R g2 bb (g3.set a (.cells ([]++bM y++f).toArray t1 (0,0))) (M8 R po co pf cf (.slice pw R.said.length cw) R.steps R.fin R.out))->K):K:=by
 obtain⟨a,Y,f,t1,x,rfl,w,aaq,zY⟩:=W.spot (by simpa using Q);simp only[Value.slice.injEq]at x;obtain⟨rfl,_,rfl⟩:=x;have P:b≠a:=λh=>N (by simp[h]);have T:a ∉ c:=λI=>by
  have:=V a;have v:=List.count_pos_iff.2 I;simp only[List.count_append,List.count_cons,List.count_nil,beq_self_eq_true,if_true]at this;omega
 refine L a f t1 rfl (by simpa using w) λy=>?_;have j:∀ z,z≠a->(g3.set a (.cells ([]++bM y++f).toArray t1 (0,0))) z=g3 z:=λz o=>by simp[Heap.set,o]
 have S:bb≠a:=by rintro rfl;have:=m.free;rw[w]at this;cases this
 have C:=zY (g3.set a (.cells ([]++bM y++f).toArray t1 (0,0))) (bM y) rfl (cB _ _ _);rw[<-List.map_set]at C;exact put _ pc _ _ (e.set 0 y) i [a] c (Heap.aR m.l3 (J a Z)) (by rw[j bb S];exact m.free) (by rw[j b P];exact M) C (X.aJ (Ib λz o=>j z λh=>T (h ▸ o))) (by simp;omega) O (λz h1 v _=>j z λh=>v (by simp[h])) (.inl rfl)
end
theorem Av {f c:Heap} {d:Nat} {vb:Value} {B q:Int} {j:Option Addr} {i:Nat} {l:List Vl} {C:List Nat} {y:Vl} {m:TypeId} {K:Value->Heap->Prop} (D:bz f d vb B) (E:bz c d vb q) (x:f.le c) (A:bR c (.slice j (l.map bM).length i) l C) (o:∀ z∈C,f z=none) (G:l.length<=1000)
  (p:∀ g e a B',f.le a->bz a d vb q->bR a (.slice g (l++[y]).length e) (l++[y]) B'->(∀ b,b ∉ C->c b≠none->a b=c b)->(∀ b∈B',b∈C\/c b=none)->K (.slice g (l++[y]).length e) (cN a d vb q)):App 16 2 [.bool false,.int .i64 0] m (cN c d vb q) j (l.map bM).length i 1 (bM y) K :=
 kK (ys:=[bM y]) D E A o x Z rfl (by simp[bM]) rfl rfl (by simp;omega) (by simp;omega) λF a B' s t u H v w=>by
  have h:bR a F (l++[y]) B':=by simpa [bR]using u
  obtain⟨g,e,rfl,_⟩:=bW.form h;rw[List.length_map]at h ⊢;exact p g e a B' s t h v w
theorem HF {g:Heap} {a:Nat} {vb:Value} {p:Int} (n:Int) (r:bz g a vb p) (i:p<=90000000) (h:0<=n/\n<=100000) :
  Dr prog 32 [.pointer (some ⟨a,0,none⟩),.int .i64 n] g a vb p 3 λd v=>d=g/\∃ x:Vl,v=.agg ⟨bM x⟩:=by
 refine bT aB func32 YM U rfl ?_;conv=>whnf
 refine bB r O (λx s t u b=>?_);conv=>whnf
 apply aD<;>intro _;all_goals conv=>whnf
 ·refine fq b (wU b O) (λv f q j c m o e=>?_);obtain⟨rfl,y,rfl,_,_⟩:=e;conv=>whnf
  exact⟨_,_,rfl,Heap.le_refl _,c.free,O,O,rfl,⟨false,y⟩,rfl⟩
 refine av ?_;conv=>whnf
 refine bB b O (λy w z A c=>?_);conv=>whnf
 exact⟨_,_,rfl,Heap.le_refl _,c.free,O,O,rfl,⟨true,y⟩,rfl⟩
theorem Ew {ae:Heap} {g:Nat} {vb:Value} {p:Int} (r:bz ae g vb p) (hp:p<=20000000) (hB:KV ae) :
  Dr prog 13 [.pointer (some ⟨g,0,none⟩)] ae g vb p 12000 M7:=by
 refine bT aB func13 G13 U rfl ?_;conv=>whnf
 refine fq r (Er r O hB) (λaa g1 q1 j E Vg Vh W=>?_);refine As.elim W λp1 n1 c1 p2 n2 c2 ai hv f hHM=>?_;subst hv;conv=>whnf
 refine fq E (vz E O) (λaa L q2 l2 r2 Q3 Q4 W=>?_);obtain⟨rfl,aj,rfl,x0,x1⟩:=W;obtain⟨R,V5⟩:=zT ai aj;have h:=λak (hF:yB R ak) hU=>Eu V5 hHM hF hU;conv=>whnf
 refine Dd r2 (R:=λaa g'=>∃ mc ab,aa=.agg ⟨mc⟩/\eX g' mc R ab/\Nd ab/\∀ b∈ab,L b=none) (uU _ ai aj L f R V5) (λaa c l3 r3 hh=>?_);obtain⟨mc,ab,rfl,own,nd,fr⟩:=hh;obtain⟨po,co,pf,cf,pw,cw,rfl⟩:=own.jv;unfold jv aE at own ⊢;obtain⟨vo,vf,vs,B1,B2,B3,t,o1,o2,o3,rfl⟩:=own;simp only[List.cons.injEq,and_true]at t;obtain⟨rfl,rfl,rfl⟩:=t;have m:MD L c g R po co pf cf pw cw B1 B2 B3:=⟨l3,r3.free,o1,o2,o3,nd,fr,V5.small⟩
 have TA:=m.lit.1;clear nd fr W;conv=>whnf
 refine bB r3 O (λy y0 y1 y2 r4=>?_);clear y1 y2;conv=>whnf
 repeat' ((first|apply And.intro|exact trivial|apply aD<;>intro _|apply aU<;>intro _|exact(m.same R.steps R.fin R.out).fin j f h O O)<;>conv=>whnf)
 refine bB r4 O (λk k0 C q r5=>?_);have NK:k.toNat < R.objs.length:=by omega
 conv=>whnf
 refine bB r5 O (λz z0 z1 z2 s=>?_);have a:z=0\/z=1\/z=2\/z=3\/z=4\/z=5\/z=6\/z=7\/z=8:=by omega
 clear C q z0 z1 z2;have dv:∀(n:Int) (ad:Value->Heap->Prop) (ag:List PanicEntry->Heap->Prop),0<=n/\n<=100000->(∀ y w,bz c g vb w->q2<=w->w<=q2+10->ad (.agg #[.bool (Vl.ref y),.int .i64 (Vl.n y)]) (cN c g vb w))->Go.Vc.Call prog 32 [.pointer (some ⟨g,0,none⟩),.int .i64 n] (cN c g vb (q2+1+1+1)) ad ag:=λn ad ag hn hK =>
  fq s (HF n s O hn) λaa g4 w l4 o Hf Hg W=>by
   obtain⟨rfl,y,rfl⟩:=W;exact hK y w o O O
 rcases a with rfl|rfl|rfl|rfl|rfl|rfl|rfl|rfl|rfl
 ·conv=>whnf
  refine bB s O (λy y0 y1 y2 o=>?_);rcases(show y=0\/y=1\/y=2 by omega)with rfl|rfl|rfl;all_goals
   conv=>whnf
   repeat' ((first|refine ay ?_|apply And.intro|exact trivial)<;>conv=>whnf)
   all_goals exact(m.same _ R.fin R.out).fin j f h O O
 ·conv=>whnf
  refine bB s O (λy y0 y1 y2 o=>?_);conv=>whnf
  repeat' ((first|apply And.intro|exact trivial)<;>conv=>whnf)
  all_goals exact(m.same R.steps _ R.out).fin j f h O O
 ·conv=>whnf
  refine dv _ _ _ O (λy w o Hf Hg=>?_);conv=>whnf
  repeat' ((first|refine ay ?_|apply And.intro|exact trivial)<;>conv=>whnf)
  all_goals exact(m.same R.steps R.fin y).fin j f h O O
 ·refine m.obj NK λb ah X V pre post J af l V6 d wB ow M B hl put=>?_;conv=>whnf
  refine bB s O (λy y0 y1 y2 o=>?_);have A:=(put c (y-3) _ l af m.l3 m.free ow O (λ_ _ _=>rfl) (λz a=>.inl a)).2;conv=>whnf
  repeat' ((first|apply And.intro|exact trivial|refine ay ?_|refine av ?_|refine aP V6 ?_|refine gS o.free d (by simp only[List.length_append,List.length_cons,List.length_nil];omega) (gW (i:=0) (by show 0+k.toNat*2+0=_;omega) Z) ?_)<;>conv=>whnf)
  all_goals exact A.fin j f h O O
 ·refine m.obj NK λb ah X V pre post J af l V6 d wB ow M B hl put=>?_;have rv:∀ n,n=0+k.toNat*2+1->rd c b n=some _:=λn hn=>bA d (i:=1) O rfl;conv=>whnf
  repeat' ((first|apply And.intro|exact trivial|refine ay ?_|refine av ?_|refine aP V6 ?_|refine ld (aW (aX s.free) (rv _ rfl)) ?_|refine dv _ _ _ O (λy w o Hf Hg=>?_)|(refine Av (y:=y) r2 o m.l3 ow M hl (λI F e u C q P Q Y=>?_);have A:=put e ah _ _ u C q.free P (by simp;omega) Q Y)|refine gS q.free A.1 (by simp only[List.length_append,List.length_cons,List.length_nil];omega) (gW (i:=1) (by show 0+k.toNat*2+1=_;omega) Z) ?_)<;>conv=>whnf)
  all_goals exact A.2.fin j f h O O
 ·conv=>whnf
  refine bB s O (λy y0 y1 y2 o=>?_);rcases(show y=0\/y=1 by omega)with rfl|rfl;all_goals
   conv=>whnf
   repeat' ((first|apply And.intro|exact trivial|refine ay ?_|refine q9 (k:=[_]) r2 o m.o3 (λz a=>(m.i3 z a).1) m.l3 rfl (by have:=m.lit.2.2.1;simp;omega) (λI F e u C q P _ ev=>?_))<;>conv=>whnf)
   all_goals exact(m.say C q.free P (by have:=m.lit.2.2.1;simp;omega) λz G h2=>ev.qv z h2 G).fin j f h O O
 ·by_cases N:0 < R.au.length
  ·refine m.gh N λb mt pc T X V post J C1 K la D H d S ID M B M9 ha oU NG put=>?_;have E:rd c b 3=some _:=bA d (i:=3) rfl rfl;have V7:∀ y I F e u,L.le e->bz e g vb 0->bR e (.slice I (D++[y]).length F) (D++[y]) u->(∀ b,b ∉ K->c b≠none->e b=c b)->(∀ b∈u,b∈K\/c b=none)->e b=c b/\UM R L g (e.set b (.cells ([]++[Value.int .i64 mt,.int .i64 pc,T,.slice I (D++[y]).length F]++post).toArray J (0,0))) (M8 R po co pf cf (.slice pw R.said.length cw) R.steps R.fin R.out):=by
    intro y I F e u C q P Q Y;have Qk:b ∉ K:=λv=>B (by simp[v]);have vG:e b=c b:=Q b Qk (by rw[d];simp);have DJ:L b=none:=m.XY N H;have x:∀ z,z≠b->(e.set b (.cells ([]++[Value.int .i64 mt,.int .i64 pc,T,.slice I (D++[y]).length F]++post).toArray J (0,0))) z=e z:=λz a=>by simp[Heap.set,a]
    have pV:g≠b:=by rintro rfl;have:=q.free;rw[vG,d]at this;cases this
    have V2:∀ z∈u,z≠b:=λz a t=>by
     rcases Y z a with v|v
     ·exact Qk (t ▸ v)
     rw[t,d]at v;cases v
    refine⟨vG,put _ pc _ _ la _ C1 u (Heap.aR C DJ) (by rw[x g pV];exact q.free) (cB _ _ _) (S.aJ (Ib λz a=>?_)) (P.aJ λz a al ho=>by rw[x z (V2 z a)];exact ho) O (by simp;omega) (λz G h2 h3=>by rw[x z G,Q z (λv=>h2 (by simp[v])) h3]) (.inl rfl)⟩;have G:z≠b:=λt=>B (by rw[<-t];simp[a]);rw[x z G,Q z (λv=>?_) (by obtain⟨al,ho⟩:=S.in z a;rw[ho];simp)];have:=M9 z;have G:=List.count_pos_iff.2 a;have h2:=List.count_pos_iff.2 v;simp only[List.count_append]at this;omega
   have hC2:∀ z∈K,L z=none:=λz a=>M z (by simp[a]);conv=>whnf
   refine bZ ?_;conv=>whnf
   repeat' ((first|apply And.intro|exact trivial|refine ay ?_|refine aP H ?_|refine ld (aW (aX s.free) E) ?_|refine dv _ _ _ O (λy w o Hf Hg=>?_)|(refine Av (y:=y) r2 o m.l3 ID hC2 oU (λI F e u C q P Q Y=>?_);have A:=V7 y I F e u C ⟨q.free,q.bytes,O⟩ P Q Y)|refine gS q.free (A.1.trans d) (by simp only[List.length_append,List.length_cons,List.length_nil];omega) (gW (i:=3) rfl Z) ?_)<;>conv=>whnf)
   all_goals exact A.2.fin j f h O O
  conv=>whnf
  repeat' ((first|apply And.intro|exact trivial|refine bD ?_|exact(m.same R.steps R.fin R.out).fin j f h O O)<;>conv=>whnf)
 ·by_cases N:0 < R.au.length
  ·refine m.gh N λb mt pc T X V post J C1 K la D H d S ID M B M9 ha oU NG put=>?_;obtain⟨Xa,Xb,rfl,_⟩:=bW.form S;have E:rd c b 2=some _:=bA d (i:=2) rfl rfl;by_cases Gk:0 < la.length
   ·refine Na (vb:=vb) (mt:=mt) (pc:=pc) m Gk d S ID M B M9 ha oU put λb1 K2 t1 yc vW hF=>?_;conv=>whnf
    refine bZ ?_;conv=>whnf
    repeat' ((first|apply And.intro|exact trivial|refine ob (by first|omega|(simp only[List.length_map];omega)) ?_|refine aP H ?_|refine aP yc ?_|refine av ?_|refine ld (aW (aX s.free) E) ?_|refine eR (by simp only[List.length_map];omega) ?_|refine dv _ _ _ O (λy w o Hf Hg=>?_)|refine gS o.free vW (by simp[bM]) (vu (pre:=[]) (y:=bM y) rfl rfl) ?_)<;>conv=>whnf)
    all_goals exact(hF y).fin j f h O O
   conv=>whnf
   refine bZ ?_;conv=>whnf
   repeat' ((first|apply And.intro|exact trivial|refine ob (by first|omega|(simp only[List.length_map];omega)) ?_|refine aP H ?_|refine ld (aW (aX s.free) E) ?_|refine cx (by simp only[List.length_map];omega) ?_|exact(m.same R.steps R.fin R.out).fin j f h O O)<;>conv=>whnf)
  conv=>whnf
  repeat' ((first|apply And.intro|exact trivial|refine bD ?_|exact(m.same R.steps R.fin R.out).fin j f h O O)<;>conv=>whnf)
 by_cases N:0 < R.au.length
 ·refine m.gh N λb mt pc T X V post J C1 K la D H d S ID M B M9 ha oU NG put=>?_;have E:rd c b 1=some _:=bA d (i:=1) rfl rfl;have pV:g≠b:=by rintro rfl;have:=s.free;rw[d]at this;cases this
  have x:∀ z,z≠b->(c.set b (.cells ([]++[Value.int .i64 mt,.int .i64 (pc+1),T,.slice X (D.map bM).length V]++post).toArray J (0,0))) z=c z:=λz a=>by simp[Heap.set,a]
  have A:=put (c.set b (.cells ([]++[Value.int .i64 mt,.int .i64 (pc+1),T,.slice X (D.map bM).length V]++post).toArray J (0,0))) (pc+1) T _ la D C1 K (Heap.aR m.l3 (m.XY N H)) (by rw[x g pV];exact m.free) (cB _ _ _) (S.aJ (Ib λz a=>x z λt=>B (by rw[<-t];simp[a]))) (ID.aJ (Ib λz a=>x z λt=>B (by rw[<-t];simp[a]))) O O (λz G _ _=>x z G) (.inr rfl);conv=>whnf
  refine bZ ?_;conv=>whnf
  repeat' ((first|apply And.intro|exact trivial|refine ay ?_|refine aP H ?_|refine av ?_|refine ld (aW (aX s.free) E) ?_|refine gS s.free d (by simp only[List.length_append,List.length_cons,List.length_nil];omega) (gW (i:=1) rfl Z) ?_)<;>conv=>whnf)
  all_goals exact A.fin j f h O O
 conv=>whnf
 repeat' ((first|apply And.intro|exact trivial|refine bD ?_|exact(m.same R.steps R.fin R.out).fin j f h O O)<;>conv=>whnf)
theorem M7.K6 {g:Heap} {v:Value} {K:Prop} (h:M7 g v) (s:∀ p n c q m e u i b f a j d M B,v=.tuple #[.agg #[.slice p n c,.slice q m e],.agg ⟨jv i b f a j d M⟩]->cZ g [.slice p n c,.slice q m e] u->eX g (jv i b f a j d M) M B->JR M->(cC u->mE u M->iq u M.au false)->K):K:=by
 obtain⟨z,u,y,M,B,rfl,h,o,t,l⟩:=h;obtain⟨x,w,q,e,rfl,_⟩:=h.form;obtain⟨i,b,f,a,j,d,rfl⟩:=o.jv;exact s _ _ _ _ _ _ _ _ _ _ _ _ _ _ _ rfl h o t l
theorem vE (v:Value) (n:Nat) (h:Heap) (C:Bytes h v n) (E:n<=1000000000000000) (o:KV h) :
  bI prog 4 [v] h λr h'=>h.le h'/\M7 h' r:=by
 refine bT aB func4 G4 U rfl ?_;conv=>whnf
 refine aG (HB v n h C E) ?_;rintro v0 h0 ⟨V,vb,rfl,rfl,r⟩;conv=>whnf
 refine bB r O (λx S T x2 d=>?_);conv=>whnf
 apply aD<;>intro t;all_goals conv=>whnf
 ·refine fq d (Ew d O o) (λv A J g a K L b=>?_);refine M7.K6 b λH F w I G y u po X pf W pw Y M B f c q P Q=>?_;subst f;unfold jv aE at q ⊢;conv=>whnf
  exact⟨Heap.le_trans g (aX a.free),_,u,_,M,B,rfl,c.le (aX a.free),q.aJ (cD.of_le (aX a.free) _),P,Q⟩
 refine fq d (Cn d O o) (λv A J g a K L b=>?_);refine NQ.elim b λH F w I G y u f c=>?_;subst f;conv=>whnf
 repeat' ((first|exact⟨Heap.le_trans g (Heap.le_trans p (aX j.free)),_,u,_,R,B,rfl,c.le (Heap.le_trans p (aX j.free)),own.aJ (cD.of_le (aX j.free) _),e.small.uJ,HD e⟩|apply And.intro|exact trivial|(refine fq a (vz a O) (λv m q4 l4 N Hf Hg b=>?_);obtain⟨rfl,x,rfl,S,T⟩:=b;refine(zT u x).elim λR e=>?_)|(refine Dd N (R:=λv z=>∃ i B,v=.agg ⟨i⟩/\eX z i R B/\Nd B/\∀ s∈B,m s=none) (uU _ u x m c R e) (λv g5 p j D=>?_);obtain⟨i,B,rfl,own,nd,fr⟩:=D;obtain⟨_,_,_,_,_,_,rfl⟩:=own.jv;unfold jv aE at own ⊢))<;>conv=>whnf)
open Go.Vc Go.Proofs.Tryz
set_option maxRecDepth 100000
set_option maxHeartbeats 4000000
theorem JS {P:Program} {t:TypeId} {f0 f1:Field} {i:IntKind} (a b:Bool) (c d:Int) (e:P.underlying t=some (.struct #[f0,f1])) (o:P.stoodInHeld t=false) (u:f0.name≠ "_") (v:f1.name≠ "_") (p:P.underlying f0.type=some .bool) (q:P.underlying f1.type=some (.int i))
  (x:∀(a:Bool) (c:Int) (w:World),(part f0.type #[.bool a,.int .i64 c] f0.offset).run P w=.ok (.bool a) w) (h:∀(a:Bool) (c:Int) (w:World),(part f1.type #[.bool a,.int .i64 c] f1.offset).run P w=.ok (.int .i64 c) w) (w:World) :
  (Go.binOp .eql t (.agg #[.bool a,.int .i64 c]) (.agg #[.bool b,.int .i64 d])).run P w=.ok (.bool (a==b&&c==d)) w:=by
 have g:P.fieldsOf t = #[f0,f1]:=by simp[Program.fieldsOf,e]
 have j:(Op.equalIn (9999+1) t (.agg #[.bool a,.int .i64 c]) (.agg #[.bool b,.int .i64 d])).run P w=.ok (a==b&&c==d) w:=by
  rw[run_equalIn_struct w 9999 t _ _ (by rw[g];exact e) o,g];simp only[Op.eqFields,u,v,ne_eq,not_false_eq_true,if_true,Sem.run_bind,x,h,Result.andThen_ok];rw[show(9999:Nat)=9998+1 from rfl,run_equalIn_bool' w 9998 f0.type a b p];by_cases f:a=b
  ·subst f;simp only[Result.andThen_ok,beq_self_eq_true,Bool.not_true,Bool.false_eq_true,if_false,Sem.run_bind,h];rw[run_equalIn_int w 9998 f1.type .i64 i c d q];by_cases s:c=d<;>simp[s]
  have:(a==b)=false:=by simpa using f
  simp[this]
 have m:(Op.equal t (.agg #[.bool a,.int .i64 c]) (.agg #[.bool b,.int .i64 d])).run P w=.ok (a==b&&c==d) w:=j;rw[show Go.binOp .eql t (.agg #[.bool a,.int .i64 c]) (.agg #[.bool b,.int .i64 d])=(do pure (.bool (<-Op.equal t (.agg #[.bool a,.int .i64 c]) (.agg #[.bool b,.int .i64 d]))))from rfl];simp only[Sem.run_bind,m,Result.andThen_ok,Sem.run_pure]
theorem HG (x y:Vl) (w:World):(Go.binOp .eql 31 (.agg #[.bool x.ref,.int .i64 x.n]) (.agg #[.bool y.ref,.int .i64 y.n])).run prog w=.ok (.bool (x.ref==y.ref&&x.n==y.n)) w:=by
 refine JS _ _ _ _ rfl ?_ ?_ ?_ rfl rfl ?_ ?_ w
 ·kernel_rfl
 ·decide
 ·decide
 ·intro a c w;rfl
 intro a c w;rfl
theorem HH (x:Vl):(x.ref==false&&x.n==0)=true↔x=cE:=by
 obtain⟨r,n⟩:=x;cases r<;>simp[cE]
theorem AL.le {h h':Heap} (b:h.le h') {xs:List Value} {o:Ob} (a:AL h xs o):AL h' xs o:=by
 obtain⟨v,e,c⟩:=a;exact⟨v,e,c.le b (λ_ _ a=>a)⟩
theorem vC.le {h h':Heap} (b:h.le h') {xs:List Value} {f:bL} (a:vC h xs f):vC h' xs f:=by
 obtain⟨v,w,e,c,d⟩:=a;exact⟨v,w,e,c.le b (λ_ _ a=>a),d.le b (λ_ _ a=>a)⟩
theorem sG.le {h h':Heap} (b:h.le h') {mc:List Value} {M:bH} (a:sG h mc M):sG h' mc M:=by
 obtain⟨d,c,f,e,g,i,j⟩:=a;exact⟨d,c,f,e,g.le b (λ_ _ a=>AL.le b a),i.le b (λ_ _ a=>vC.le b a),j.le b (λ_ _ a=>a)⟩
theorem gF {P:Program} {f:FuncId} {args:List Value} {h:Heap} {K:Value->Heap->Prop} {E:List PanicEntry->Heap->Prop} {p:Prop} (k:Go.Vc.Pure P f args h (tf p)) (c:p->K (.bool true) h) (b:¬p->K (.bool false) h):Go.Vc.Call P f args h K E:=by
 by_cases a:p
 ·rw[ei a]at k;exact ax k (c a)
 rw[cS a]at k;exact ax k (b a)
theorem Aw {P:Program} {f:FuncId} {args:List Value} {h:Heap} {K:Value->Heap->Prop} {E:List PanicEntry->Heap->Prop} {p:Prop} (k:Go.Vc.Pure P f args h (tf p)) (c:p->K (.bool true) h) (b:¬p->K (.bool false) h):fE P f args h K E:=by
 by_cases a:p
 ·rw[ei a]at k;exact aO k (c a)
 rw[cS a]at k;exact aO k (b a)
structure Ql (v x:Value) (h' h:Heap):Prop where
 e:v=x
 k:h.le h'
theorem gM {P:Program} {f:FuncId} {args:List Value} {h:Heap} {S:iK} (b:dg P S) {fn:Func} (c:P.funcs[f]? = some fn) (F:Fs) {k:Nat} (e:gH F fn k=true) {x:Value} (d:args.length=k) (g:Goal P S F fn args h λo h'=>match o with
  | .ret v=>Ql v x h' h
  | .jj _=>False):Go.Vc.Pure P f args h x:=by
 subst d;unfold Go.Vc.Pure bI;refine(calls b c F e g).shrink λo h' a=>?_;cases o with
 | ret v=>exact⟨h,a.2,a.1,rfl⟩
 | jj i=>exact a.elim
theorem Ax (x:Vl) (n:Nat) (h:Heap):Pure prog 24 [.agg ⟨bM x⟩,.int .i64 n] h (tf (iR n x)):=by
 obtain⟨r,k⟩:=x;show Go.Vc.Pure _ _ [.agg #[.bool r,.int .i64 k],.int .i64 n] h (tf ((r=true->0<=k/\k<=n)/\(r=false->isWord k=true)));refine gM aB func24 YE U rfl ?_;cases r
 all_goals conv=>whnf
 ·refine ax (m8 _ h) ?_;conv=>whnf
  refine⟨?_,Heap.le_refl h⟩;by_cases b:isWord k=true
  ·rw[b];exact dx (by simp[b])
  have:isWord k=false:=by simpa using b
  rw[this];exact bS (by simp[this])
 refine ax (de _ _ _ h) ?_;conv=>whnf
 repeat' ((first|apply aD<;>intro g|apply aU<;>intro g)<;>conv=>whnf)
 all_goals first|exact⟨dx ⟨λ_=>O,λh=>nomatch h⟩,Heap.le_refl h⟩|exact⟨bS (λa=>by have:=a.1 rfl;omega),Heap.le_refl h⟩|exact⟨eM ⟨λa=>by have:=a.1 rfl;omega,λa=>⟨λ_=>O,λh=>nomatch h⟩⟩,Heap.le_refl h⟩
theorem sI (v:Value) (l:List Vl) (n:Nat) (h:Heap) (f:Row 2 EI h v l):Pure prog 49 [v,.int .i64 n] h (tf (∀ x∈l,iR n x)):=by
 obtain⟨s,g,rfl,u,y⟩:=f.len;refine gM aB func49 YZ U rfl ?_;conv=>whnf
 refine eu [0,1,5] [] (λi:Nat=>i<=l.length/\∀ x∈l.take i,iR n x) (λi=>l.length-i)
  (λi=>([.v (.slice s l.length g),.v (.int .i64 n),.v (.int .i64 i)],[],h)) 0 ⟨Nat.zero_le _,Z⟩ rfl ?_
 rintro i ⟨w,e⟩;conv=>whnf
 apply aD<;>intro o;all_goals conv=>whnf
 ·have d:i < l.length:=by omega
  obtain⟨t,z,A,q,j,m⟩:=f.get d;have b:=Ax l[i] n h;obtain rfl:=m;unfold bM at b;refine ay ?_;conv=>whnf
  refine aP q ?_;conv=>whnf
  refine dh j ?_;conv=>whnf
  by_cases c:iR n l[i]
  ·rw[ei c]at b;refine ax b ?_;conv=>whnf
   refine av ?_;conv=>whnf
   exact cT (i+1) ⟨O,λx a=>by
    rw[List.take_add_one,List.mem_append]at a;rcases a with a|a
    ·exact e x a
    rw[List.getElem?_eq_getElem d]at a;simp at a;subst a;exact c⟩ O rfl
  rw[cS c]at b;refine ax b ?_;conv=>whnf
  exact⟨bS λp=>c (p _ (List.getElem_mem d)),Heap.le_refl h⟩
 have:i=l.length:=by omega
 subst this;rw[List.take_length]at e;exact⟨dx e,Heap.le_refl h⟩
theorem Co {K:Value->Heap->Prop} {E:List PanicEntry->Heap->Prop} {p:Option Addr} {n c:Nat} {cs:List dH} {x:Int} {h:Heap} (g:eD h (.slice p n c) cs) (ok:cn cs) (h0:0<=x/\x < cs.length) (e:∀ h' b a,h.le h'->K (.slice b (cP cs x).length a) h') :
  fE prog 50 [.slice p n c,.int .i64 x] h K E:=cO (iy _ p n c cs x h g ok h0.1 h0.2 (Nat.lt_succ_self _)) (λv h' f=>by
 obtain⟨d,B,own,_⟩:=f;obtain⟨b,a,rfl,_⟩:=own.form;rw[List.length_map];exact⟨d,e h' b a d⟩)
theorem yC {u:aS} {n:Nat} {o:Ob} (a:∀ x∈o.bp,iR n x):CU u n o↔(((o.cls = -1\/o.cls = -2)/\o.bp.length<=6)\/(0<=o.cls/\o.cls < u.aq.length/\o.bp.length=(cP u.aq o.cls).length)):=⟨λh=>h.2,λh=>⟨a,h⟩⟩
theorem HI (f:List Value) (u:aS) (o:Ob) (xs:List Value) (n:Nat) (h:Heap) (m:cZ h f u) (d:cC u) (j:AL h xs o):Pure prog 25 [.agg ⟨f⟩,.agg ⟨xs⟩,.int .i64 n] h (tf (CU u n o)):=by
 obtain⟨F,q,I,t,rfl,i,C,A,B⟩:=m.form;obtain⟨v,rfl,e⟩:=j;have b:=sI v o.bp n h e;obtain⟨H,s,rfl,y,D⟩:=e.len;have g:=d.1;have z:=d.1.1;refine gM aB func25 YF U rfl ?_;conv=>whnf
 by_cases a:∀ x∈o.bp,iR n x
 ·rw[ei a]at b;refine ax b ?_;conv=>whnf
  repeat' ((first|apply aD<;>intro _|apply aU<;>intro _|refine av ?_|refine aO (de _ _ _ h) ?_|refine Co i g O (λw G p E=>?_)|apply And.intro|exact trivial)<;>conv=>whnf)
  all_goals first|exact⟨eM ((yC a).trans O),by first|exact Heap.le_refl h|assumption⟩|exact⟨dx ((yC a).2 O),by first|exact Heap.le_refl h|assumption⟩|exact⟨bS (λc=>by have:=(yC a).1 c;omega),by first|exact Heap.le_refl h|assumption⟩
 rw[cS a]at b;refine ax b ?_;conv=>whnf
 exact⟨bS λc=>a c.1,Heap.le_refl h⟩
theorem HJ (M:bH):uI M↔(((M.fin=0\/M.fin=3)/\0 < M.au.length/\M.out=cE)\/(M.fin=1/\M.au.length=0)\/(M.fin=2/\M.au.length=0/\M.out.ref=true/\1<=M.out.n)):=by
 unfold uI;have a:M.au≠[]↔0 < M.au.length:=List.length_pos_iff.symm;have b:M.au=[]↔M.au.length=0:=List.length_eq_zero_iff.symm;rw[a,b]
theorem oI {M:bH} {r z:Bool} (a:M.out.ref=r) (b:(M.out.ref==false&&M.out.n==0)=z):uI M↔(((M.fin=0\/M.fin=3)/\0 < M.au.length/\z=true)\/(M.fin=1/\M.au.length=0)\/(M.fin=2/\M.au.length=0/\r=true/\1<=M.out.n)):=by
 rw[HJ,<-HH,b,a]
theorem HK (j vs:Value) (i:Option Addr) (e:Nat) (M:bH) (h:Heap):Pure prog 28 [.agg ⟨aE j (.slice i M.au.length e) vs M⟩] h (tf (uI M)):=by
 refine gM aB func28 YI U rfl ?_;unfold aE;have g:∀ c:Bool,(M.out.ref==false&&M.out.n==0)=c->∀ w:World,(Go.binOp .eql 31 (.agg #[.bool M.out.ref,.int .i64 M.out.n]) (.agg #[.bool false,.int .i64 0])).run prog w=.ok (.bool c) w:=λc a w=>by
  rw[<-a];exact HG M.out cE w
 cases a:(M.out.ref==false&&M.out.n==0)<;>cases b:M.out.ref
 all_goals
  have d:=g _ a;rw[b]at d;conv=>whnf
  repeat' ((first|apply aD<;>intro _|apply aU<;>intro _|refine fI rfl rfl (λw=>by simp[eqGuard]) d ?_)<;>conv=>whnf)
  all_goals first|exact⟨dx ((oI b a).2 (by simp only[Bool.true_eq_false,Bool.false_eq_true,and_true,and_false,true_and,false_and,or_false,false_or];omega)),Heap.le_refl h⟩|exact⟨bS (λf=>by have:=(oI b a).1 f;simp only[Bool.true_eq_false,Bool.false_eq_true,and_true,and_false,true_and,false_and,or_false,false_or]at this;omega),Heap.le_refl h⟩|exact⟨eM ((oI b a).trans (by simp only[Bool.true_eq_false,Bool.false_eq_true,and_true,and_false,true_and,false_and,or_false,false_or];omega)),Heap.le_refl h⟩
theorem JT (j vs:Value) (i:Option Addr) (e:Nat) (M:bH) (h:Heap):Pure prog 79 [.agg ⟨aE j (.slice i M.au.length e) vs M⟩] h (tf (uI M)):=by
 refine gM aB func79 Zs U rfl ?_;unfold aE;have g:∀ c:Bool,(M.out.ref==false&&M.out.n==0)=c->∀ w:World,(Go.binOp .eql 31 (.agg #[.bool M.out.ref,.int .i64 M.out.n]) (.agg #[.bool false,.int .i64 0])).run prog w=.ok (.bool c) w:=λc a w=>by
  rw[<-a];exact HG M.out cE w
 cases a:(M.out.ref==false&&M.out.n==0)<;>cases b:M.out.ref
 all_goals
  have d:=g _ a;rw[b]at d;conv=>whnf
  repeat' ((first|apply aD<;>intro _|apply aU<;>intro _|refine fI rfl rfl (λw=>by simp[eqGuard]) d ?_)<;>conv=>whnf)
  all_goals first|exact⟨dx ((oI b a).2 (by simp only[Bool.true_eq_false,Bool.false_eq_true,and_true,and_false,true_and,false_and,or_false,false_or];omega)),Heap.le_refl h⟩|exact⟨bS (λf=>by have:=(oI b a).1 f;simp only[Bool.true_eq_false,Bool.false_eq_true,and_true,and_false,true_and,false_and,or_false,false_or]at this;omega),Heap.le_refl h⟩|exact⟨eM ((oI b a).trans (by simp only[Bool.true_eq_false,Bool.false_eq_true,and_true,and_false,true_and,false_and,or_false,false_or];omega)),Heap.le_refl h⟩
theorem oJ {u:aS} {n:Nat} {f:bL} (a:0<=f.aC/\f.aC < u.methods.length):tC u n f↔((0<=f.pc/\f.pc<=(aY u f.aC).code.length)/\(f.locals.length:Int)=(aY u f.aC).locals/\f.stack.length<=4/\(∀ v∈f.locals,iR n v)/\∀ v∈f.stack,iR n v):=⟨λh=>h.2,λh=>⟨a,h⟩⟩
theorem HL {u:aS} {n:Nat} {f:bL} (a:¬((0<=f.pc/\f.pc<=(aY u f.aC).code.length)/\(f.locals.length:Int)=(aY u f.aC).locals/\f.stack.length<=4)):¬tC u n f:=λh=>a ⟨h.2.1,h.2.2.1,h.2.2.2.1⟩
theorem yD (q:List Value) (u:aS) (f:bL) (xs:List Value) (n:Nat) (h:Heap) (y:cZ h q u) (J:cC u) (w:vC h xs f):Pure prog 26 [.agg ⟨q⟩,.agg ⟨xs⟩,.int .i64 n] h (tf (tC u n f)):=by
 obtain⟨T,H,X,I,rfl,M,t,N,P⟩:=y.form;obtain⟨B,C,rfl,j,m⟩:=w;have e:=sI B f.locals n h j;have g:=sI C f.stack n h m;obtain⟨V,F,rfl,K,Q⟩:=j.len;obtain⟨W,G,rfl,L,R⟩:=m.len;refine gM aB func26 YG U rfl ?_;by_cases d:0<=f.aC/\f.aC < u.methods.length
 ·obtain⟨E,S,Y,x,p,o⟩:=t.get (i:=f.aC.toNat) O;have s:u.methods[f.aC.toNat]'O=aY u f.aC:=by unfold aY;rw[List.getD_eq_getElem?_getD,List.getElem?_eq_getElem O];rfl
  rw[s]at o;obtain⟨_,_,_,_,rfl,_,_,_,_,_,D,_,_⟩:=o;obtain⟨_,_,rfl,_,_⟩:=D.len;have z:=aM p (i:=4) rfl;have A:=aM p (i:=5) rfl;conv=>whnf
  repeat' ((first|apply aD<;>intro _|refine aP x ?_|refine ay ?_|refine ld A ?_|refine ld z ?_|refine av ?_|refine aO (de _ _ _ h) ?_|apply And.intro|exact trivial)<;>conv=>whnf)
  all_goals try first|exact⟨bS (HL O),Heap.le_refl h⟩|(exfalso;omega)
  by_cases b:∀ v∈f.locals,iR n v
  ·rw[ei b]at e;refine aO e ?_;conv=>whnf
   by_cases c:∀ v∈f.stack,iR n v
   ·rw[ei c]at g;refine aO g ?_;conv=>whnf
    exact⟨dx ((oJ d).2 ⟨O,O,O,b,c⟩),Heap.le_refl h⟩
   rw[cS c]at g;refine aO g ?_;conv=>whnf
   exact⟨bS (λa=>c ((oJ d).1 a).2.2.2.2),Heap.le_refl h⟩
  rw[cS b]at e;refine aO e ?_;conv=>whnf
  exact⟨bS (λa=>b ((oJ d).1 a).2.2.2.1),Heap.le_refl h⟩
 conv=>whnf
 repeat' ((first|apply aD<;>intro _|apply aU<;>intro _|refine av ?_|refine aO (de _ _ _ h) ?_|apply And.intro|exact trivial)<;>conv=>whnf)
 all_goals first|exact⟨bS (λa=>d a.1),Heap.le_refl h⟩|(exfalso;omega)
def XZ (u:aS) (n i:Nat) (o:Ob):Prop:=CU u n o/\(i < 7->o.cls=1)
theorem iJ (u:aS) (M:bH):mE u M↔((0<=M.steps/\M.steps<=200)/\(7<=M.objs.length/\M.objs.length<=207)/\M.au.length<=4/\M.said.length<=200)/\iR M.objs.length M.out/\(∀ i (a:i < M.objs.length),XZ u M.objs.length i M.objs[i])/\(∀ f∈M.au,tC u M.objs.length f)/\(∀ n∈M.said,isWord n=true)/\uI M:=by
 have low:∀(s:7<=M.objs.length) (k:Int) (g:0 < k) (b:k<=7),aK M.objs k=M.objs[(k-1).toNat]'O:=λs k g b=>by
  unfold aK;rw[List.getD_eq_getElem?_getD,List.getElem?_eq_getElem O];rfl
 constructor
 ·intro h;refine⟨⟨h.steps,h.len,h.nf,h.iS⟩,h.out,λi a=>⟨h.objs _ (List.getElem_mem a),λe=>?_⟩,h.gh,h.said,h.fin⟩;have:=h.low ((i:Int)+1) O O;rw[low h.len.1 _ O O]at this;simp only[show((i:Int)+1-1).toNat=i by omega]at this;exact this
 rintro⟨⟨b,c,j,m⟩,o,d,e,p,q⟩;refine⟨b,c,j,m,o,λx t=>?_,λk v w=>?_,e,p,q⟩
 ·obtain⟨i,a,rfl⟩:=List.mem_iff_getElem.1 t;exact(d i a).1
 rw[low c.1 k v w];exact(d _ O).2 O
theorem take_one {b:Type} {l:List b} {i:Nat} {Q:b->Prop} (c:i < l.length) (d:∀ x∈l.take i,Q x) (e:Q l[i]):∀ x∈l.take (i+1),Q x:=λx a=>by
 rw[List.take_add_one,List.mem_append]at a;rcases a with a|a
 ·exact d x a
 rw[List.getElem?_eq_getElem c]at a;simp at a;subst a;exact e
theorem xh (W mc:List Value) (u:aS) (M:bH) (h:Heap) (J:cZ h W u) (hM:sG h mc M):Pure prog 8 [.agg ⟨W⟩,.agg ⟨mc⟩] h (tf (cC u/\mE u M)):=by
 have R:=J;have z:=rU _ u h J;obtain⟨T,L,V,N,rfl,hcs,kS,ko,hl2⟩:=J.form;obtain⟨vo,vf,vs,rfl,X,Y,w3⟩:=hM;have e:=Ax M.out M.objs.length h;unfold bM at e;obtain⟨C,x,rfl,hco,Qr⟩:=X.len;obtain⟨B,w,rfl,hcf,KA⟩:=Y.len;obtain⟨D,y,rfl,hcS,V8⟩:=w3.len;have P:=HK (.slice C M.objs.length x) (.slice D M.said.length y) B w M h;refine gM aB func8 F8 U rfl ?_;unfold aE at P ⊢;conv=>whnf
 by_cases p:cC u
 ·rw[ei p]at z;refine ax z ?_;conv=>whnf
  by_cases F:(0<=M.steps/\M.steps<=200)/\(7<=M.objs.length/\M.objs.length<=207)/\M.au.length<=4/\M.said.length<=200
  ·by_cases o:iR M.objs.length M.out
   ·rw[ei o]at e;repeat' ((first|refine cy ?_|refine bD ?_|refine ax (de _ _ _ h) ?_|refine ax e ?_)<;>conv=>whnf)
    refine eu [2,3,5,6] [2,3] (λi:Nat=>i<=M.objs.length/\∀ j (G:j < M.objs.length),j < i->XZ u M.objs.length j M.objs[j]) (λi=>M.objs.length-i)
     (λi=>([.l 2 0,.l 3 0,.v (.int .i64 M.objs.length),.v (.int .i64 i)],[some [.slice T u.aq.length L,.slice V u.methods.length N],some [.slice C M.objs.length x,.slice B M.au.length w,.slice D M.said.length y,.int .i64 M.steps,.int .i64 M.fin,.bool M.out.ref,.int .i64 M.out.n]],h)) 0 ⟨Nat.zero_le _,λ_ _ h=>absurd h O⟩ rfl ?_
    rintro i ⟨Q,G⟩;conv=>whnf
    apply aD<;>intro q;all_goals conv=>whnf
    ·have d:i < M.objs.length:=by omega
     obtain⟨K,S,E,f,m,g⟩:=X.get d;have c:=HI _ u M.objs[i] E M.objs.length h R p g;obtain⟨ab,rfl,_⟩:=g;have t:=aM m (i:=0) rfl;by_cases b:CU u M.objs.length M.objs[i]
     ·rw[ei b]at c;repeat' ((first|apply aD<;>intro _|apply aU<;>intro _|refine aP f ?_|refine ay ?_|refine dh m ?_|refine ld t ?_|refine aO c ?_|refine av ?_|apply And.intro|exact trivial)<;>conv=>whnf)
      ·exact⟨bS (λa=>by have:=(((iJ u M).1 a.2).2.2.1 i d).2 O;omega),Heap.le_refl h⟩
      all_goals exact cT (i+1) ⟨O,λj A hjj=>by
       by_cases Fm:j=i
       ·subst Fm;exact⟨b,O⟩
       exact G j A O⟩ O rfl
     rw[cS b]at c;repeat' ((first|refine aP f ?_|refine ay ?_|refine dh m ?_|refine ld t ?_|refine aO c ?_|apply And.intro|exact trivial)<;>conv=>whnf)
     exact⟨bS λa=>b (((iJ u M).1 a.2).2.2.1 i d).1,Heap.le_refl h⟩
    have s:i=M.objs.length:=by omega
    subst s;refine eu [2,3,5,7] [2,3] (λi:Nat=>i<=M.au.length/\∀ aa∈M.au.take i,tC u M.objs.length aa) (λi=>M.au.length-i)
     (λi=>([.l 2 0,.l 3 0,.v (.int .i64 M.objs.length),.v (.int .i64 i)],[some [.slice T u.aq.length L,.slice V u.methods.length N],some [.slice C M.objs.length x,.slice B M.au.length w,.slice D M.said.length y,.int .i64 M.steps,.int .i64 M.fin,.bool M.out.ref,.int .i64 M.out.n]],h)) 0 ⟨Nat.zero_le _,Z⟩ rfl ?_
    rintro i ⟨Q,H⟩;conv=>whnf
    apply aD<;>intro q;all_goals conv=>whnf
    ·have d:i < M.au.length:=by omega
     obtain⟨K,S,E,f,m,g⟩:=Y.get d;have c:=yD _ u M.au[i] E M.objs.length h R p g;obtain⟨v1,v2,rfl,_⟩:=g;by_cases b:tC u M.objs.length M.au[i]
     ·rw[ei b]at c;repeat' ((first|refine aP f ?_|refine ay ?_|refine dh m ?_|refine aO c ?_|refine av ?_|apply And.intro|exact trivial)<;>conv=>whnf)
      exact cT (i+1) ⟨O,take_one d H b⟩ O rfl
     rw[cS b]at c;repeat' ((first|refine aP f ?_|refine ay ?_|refine dh m ?_|refine aO c ?_|apply And.intro|exact trivial)<;>conv=>whnf)
     exact⟨bS λa=>b (((iJ u M).1 a.2).2.2.2.1 _ (List.getElem_mem d)),Heap.le_refl h⟩
    have s:i=M.au.length:=by omega
    subst s;rw[List.take_length]at H;refine eu [3,8] [3] (λi:Nat=>i<=M.said.length/\∀ n∈M.said.take i,isWord n=true) (λi=>M.said.length-i)
     (λi=>([.l 3 0,.v (.int .i64 i)],[some [.slice C M.objs.length x,.slice B M.au.length w,.slice D M.said.length y,.int .i64 M.steps,.int .i64 M.fin,.bool M.out.ref,.int .i64 M.out.n]],h)) 0 ⟨Nat.zero_le _,Z⟩ rfl ?_
    rintro i ⟨Q,I⟩;conv=>whnf
    apply aD<;>intro q;all_goals conv=>whnf
    ·have d:i < M.said.length:=by omega
     obtain⟨K,S,E,f,m,g⟩:=w3.get d;have c:=m8 M.said[i] h;unfold vB at g;subst g;have t:=aM m (i:=0) rfl;by_cases b:isWord M.said[i]=true
     ·rw[b]at c;repeat' ((first|refine aP f ?_|refine ay ?_|refine ld t ?_|refine ax c ?_|refine av ?_)<;>conv=>whnf)
      exact cT (i+1) ⟨O,take_one d I b⟩ O rfl
     rw[show isWord M.said[i]=false by simpa using b]at c;repeat' ((first|refine aP f ?_|refine ay ?_|refine ld t ?_|refine ax c ?_)<;>conv=>whnf)
     exact⟨bS λa=>b (((iJ u M).1 a.2).2.2.2.2.1 _ (List.getElem_mem d)),Heap.le_refl h⟩
    have s:i=M.said.length:=by omega
    subst s;rw[List.take_length]at I;refine ax P ?_;conv=>whnf
    refine⟨?_,Heap.le_refl h⟩;by_cases v:uI M
    ·rw[ei v];exact dx (And.intro p <| (iJ u M).2 ⟨F,o,λj A=>G j A A,H,I,v⟩)
    rw[cS v];exact bS λa=>v ((iJ u M).1 a.2).2.2.2.2.2
   rw[cS o]at e;repeat' ((first|refine cy ?_|refine bD ?_|refine ax (de _ _ _ h) ?_|refine ax e ?_)<;>conv=>whnf)
   exact⟨bS λa=>o ((iJ u M).1 a.2).2.1,Heap.le_refl h⟩
  by_cases o:iR M.objs.length M.out
  ·rw[ei o]at e;repeat' ((first|apply aD<;>intro _|apply aU<;>intro _|refine ax (de _ _ _ h) ?_|refine ax e ?_|(exfalso;omega)|exact⟨bS λa=>F ((iJ u M).1 a.2).1,Heap.le_refl h⟩)<;>conv=>whnf)
  rw[cS o]at e;repeat' ((first|apply aD<;>intro _|apply aU<;>intro _|refine ax (de _ _ _ h) ?_|refine ax e ?_|(exfalso;omega)|exact⟨bS λa=>F ((iJ u M).1 a.2).1,Heap.le_refl h⟩)<;>conv=>whnf)
 rw[cS p]at z;refine ax z ?_;conv=>whnf
 exact⟨bS λa=>p a.1,Heap.le_refl h⟩
theorem Ey (r:Bool) (k:Int) (n:Int) (h:Heap):Pure prog 58 [.agg #[.bool r,.int .i64 k],.int .i64 n] h (tf (r=true->0<=k/\k<=n)):=by
 refine gM aB func58 Y8 U rfl ?_;cases r
 all_goals conv=>whnf
 ·exact⟨dx (λh=>nomatch h),Heap.le_refl h⟩
 repeat' ((first|apply aD<;>intro _|apply aU<;>intro _)<;>conv=>whnf)
 all_goals first|exact⟨dx (λ_=>O),Heap.le_refl h⟩|exact⟨bS (λa=>by have:=a rfl;omega),Heap.le_refl h⟩|exact⟨eM ⟨λa=>by have:=a rfl;omega,λa _=>O⟩,Heap.le_refl h⟩
theorem Cp (c:Value) (q:Option Addr) (n d:Nat) (k:Int) (h:Heap):Pure prog 61 [.agg #[c,.slice q n d],.int .i64 k] h (tf (0<=k/\k < n)):=by
 refine gM aB func61 Zb U rfl ?_;conv=>whnf
 repeat' ((first|apply aD<;>intro _|apply aU<;>intro _)<;>conv=>whnf)
 all_goals first|exact⟨dx O,Heap.le_refl h⟩|exact⟨bS O,Heap.le_refl h⟩|exact⟨eM O,Heap.le_refl h⟩
theorem vZ {K:Value->Heap->Prop} {E:List PanicEntry->Heap->Prop} {p:Option Addr} {n c:Nat} {cs:List dH} {x:Int} {h:Heap} (g:eD h (.slice p n c) cs) (ok:cn cs) (h0:0<=x/\x < cs.length) (e:∀ h' b a,h.le h'->K (.slice b (cP cs x).length a) h') :
  fE prog 121 [.slice p n c,.int .i64 x] h K E:=cO (iG _ p n c cs x h g ok h0.1 h0.2 (Nat.lt_succ_self _)) (λv h' f=>by
 obtain⟨d,B,own,_⟩:=f;obtain⟨b,a,rfl,_⟩:=own.form;rw[List.length_map];exact⟨d,e h' b a d⟩)
def V9 (u:aS) (o:Ob):Prop:=((o.cls = -1\/o.cls = -2)/\o.bp.length<=6)\/(0<=o.cls/\o.cls < u.aq.length/\o.bp.length=(cP u.aq o.cls).length)
theorem JU (p:Option Addr) (b:Nat) (u:aS) (o:Ob) (i:Option Addr) (d:Nat) (h:Heap) (g:Row 2 vQ h (.slice p u.aq.length b) u.aq) (e:cC u):Pure prog 75 [.slice p u.aq.length b,.agg #[.int .i64 o.cls,.slice i o.bp.length d]] h (tf (V9 u o)):=by
 have f:=e.1;refine gM aB func75 Zo U rfl ?_;unfold V9;conv=>whnf
 by_cases c:0<=o.cls/\o.cls < u.aq.length
 ·have a:=kR p u.aq.length b o.cls h;rw[ei c]at a;repeat' ((first|refine bD ?_|refine aO a ?_|refine vZ g f c (λm s j q=>?_)|apply And.intro|exact trivial)<;>conv=>whnf)
  all_goals exact⟨eM O,by first|exact Heap.le_refl h|assumption⟩
 have a:=kR p u.aq.length b o.cls h;rw[cS c]at a;repeat' ((first|apply aD<;>intro _|refine aO a ?_|apply And.intro|exact trivial)<;>conv=>whnf)
 all_goals first|exact⟨eM O,Heap.le_refl h⟩|exact⟨bS O,Heap.le_refl h⟩
theorem Nb (x:Vl) (bm:Nat) (p m:Option Addr) (b c:Nat) (o vs:Value) (st d on:Int) (j:Bool) (t:TypeId) (h:Heap) (g:h bm=some (.cells [.slice m b c,o,vs,.int .i64 st,.int .i64 d,.bool j,.int .i64 on].toArray t (0,0))) :
  Pure prog 57 [.agg ⟨bM x⟩,.pointer (some ⟨bm,0,none⟩)] h (tf (iR b x)):=by
 obtain⟨r,k⟩:=x;unfold bM iR;refine gM aB func57 Y7 U rfl ?_;have e:=Ey r k b h;have f:=qi k h;cases r
 all_goals conv=>whnf
 ·refine ax f ?_;conv=>whnf
  refine⟨?_,Heap.le_refl h⟩;by_cases a:isWord k=true
  ·rw[a];exact dx (by simp[a])
  have:isWord k=false:=by simpa using a
  rw[this];exact bS (by simp[this])
 refine ld (bF g rfl) ?_;conv=>whnf
 refine ax e ?_;conv=>whnf
 refine⟨?_,Heap.le_refl h⟩;by_cases a:0<=k/\k<=b
 ·rw[ei (λ_=>a)];exact dx (by simp;omega)
 rw[cS (λi=>a (i rfl))];exact bS (by simp;omega)
theorem HM (l:List Vl) (v:Value) (bm:Nat) (Q:Vl->Prop) (h:Heap) (g:Row 2 EI h v l) (p:∀ x∈l,∀ xs,EI h xs x->Pure prog 57 [.agg ⟨xs⟩,.pointer (some ⟨bm,0,none⟩)] h (tf (Q x))) :
  Pure prog 63 [v,.func (.func 57) #[] #[.pointer (some ⟨bm,0,none⟩)]] h (tf (∀ x∈l,Q x)):=by
 obtain⟨s,m,rfl,u,y⟩:=g.len;refine gM aB func63 Zd U rfl ?_;conv=>whnf
 refine eu [1,7,8,9] [] (λi:Nat=>i<=l.length/\∀ x∈l.take i,Q x) (λi=>l.length-i)
  (λi=>([.v (.func (.func 57) #[] #[.pointer (some ⟨bm,0,none⟩)]),.v (.slice s l.length m),.v (.int .i64 l.length),.v (.int .i64 i)],[],h)) 0 ⟨Nat.zero_le _,Z⟩ rfl ?_
 rintro i ⟨w,d⟩;conv=>whnf
 apply aD<;>intro o;all_goals conv=>whnf
 ·have c:i < l.length:=by omega
  obtain⟨t,z,xs,f,j,e⟩:=g.get c;have b:=p _ (List.getElem_mem c) xs e;unfold EI at e;subst e;by_cases a:Q l[i]
  ·rw[ei a]at b;repeat' ((first|refine aP f ?_|refine ay ?_|refine dh j ?_|refine ax b ?_|refine av ?_)<;>conv=>whnf)
   exact cT (i+1) ⟨O,take_one c d a⟩ O rfl
  rw[cS a]at b;repeat' ((first|refine aP f ?_|refine ay ?_|refine dh j ?_|refine ax b ?_|refine av ?_)<;>conv=>whnf)
  exact⟨bS λq=>a (q _ (List.getElem_mem c)),Heap.le_refl h⟩
 have:i=l.length:=by omega
 subst this;rw[List.take_length]at d;exact⟨dx d,Heap.le_refl h⟩
theorem HN (l:List Int) (v:Value) (Q:Int->Prop) (h:Heap) (g:Row 1 vB h v l) (p:∀ x∈l,∀ xs,vB h xs x->Pure prog 59 [.int .i64 x] h (tf (Q x))) :
  Pure prog 69 [v,.func (.func 59) #[] #[]] h (tf (∀ x∈l,Q x)):=by
 obtain⟨s,m,rfl,w,z⟩:=g.len;refine gM aB func69 Zj U rfl ?_;conv=>whnf
 refine eu [1,7,8,9] [] (λi:Nat=>i<=l.length/\∀ x∈l.take i,Q x) (λi=>l.length-i)
  (λi=>([.v (.func (.func 59) #[] #[]),.v (.slice s l.length m),.v (.int .i64 l.length),.v (.int .i64 i)],[],h)) 0 ⟨Nat.zero_le _,Z⟩ rfl ?_
 rintro i ⟨y,d⟩;conv=>whnf
 apply aD<;>intro o;all_goals conv=>whnf
 ·have c:i < l.length:=by omega
  obtain⟨u,A,xs,f,t,e⟩:=g.get c;have b:=p _ (List.getElem_mem c) xs e;(unfold vB at e;subst e;have j:=aM t (i:=0) rfl)
  by_cases a:Q l[i]
  ·rw[ei a]at b;repeat' ((first|refine aP f ?_|refine ay ?_|refine ld j ?_|refine ax b ?_|refine av ?_)<;>conv=>whnf)
   exact cT (i+1) ⟨O,take_one c d a⟩ O rfl
  rw[cS a]at b;repeat' ((first|refine aP f ?_|refine ay ?_|refine ld j ?_|refine ax b ?_|refine av ?_)<;>conv=>whnf)
  exact⟨bS λq=>a (q _ (List.getElem_mem c)),Heap.le_refl h⟩
 have:i=l.length:=by omega
 subst this;rw[List.take_length]at d;exact⟨dx d,Heap.le_refl h⟩
theorem Ez (l:List Ob) (v:Value) (Q:Ob->Prop) (h:Heap) (f:Row 2 AL h v l) (p:∀ x∈l,∀ xs,AL h xs x->Pure prog 72 [.agg ⟨xs⟩] h (tf (Q x))) :
  Pure prog 71 [v,.func (.func 72) #[] #[]] h (tf (∀ x∈l,Q x)):=by
 obtain⟨t,m,rfl,w,z⟩:=f.len;refine gM aB func71 Rx Om rfl ?_;conv=>whnf
 refine eu [1,7,8,9] [] (λi:Nat=>i<=l.length/\∀ x∈l.take i,Q x) (λi=>l.length-i)
  (λi=>([.v (.func (.func 72) #[] #[]),.v (.slice t l.length m),.v (.int .i64 l.length),.v (.int .i64 i)],[],h)) 0 ⟨Nat.zero_le _,Z⟩ rfl ?_
 rintro i ⟨y,d⟩;conv=>whnf
 apply aD<;>intro o;all_goals conv=>whnf
 ·have c:i < l.length:=by omega
  obtain⟨u,A,xs,e,j,g⟩:=f.get c;have b:=p _ (List.getElem_mem c) xs g;(obtain⟨B,rfl,q⟩:=g;obtain⟨_,_,rfl,_,_⟩:=q.len)
  by_cases a:Q l[i]
  ·rw[ei a]at b;repeat' ((first|refine aP e ?_|refine ay ?_|refine dh j ?_|refine ax b ?_|refine av ?_)<;>conv=>whnf)
   exact cT (i+1) ⟨O,take_one c d a⟩ O rfl
  rw[cS a]at b;repeat' ((first|refine aP e ?_|refine ay ?_|refine dh j ?_|refine ax b ?_|refine av ?_)<;>conv=>whnf)
  exact⟨bS λs=>a (s _ (List.getElem_mem c)),Heap.le_refl h⟩
 have:i=l.length:=by omega
 subst this;rw[List.take_length]at d;exact⟨dx d,Heap.le_refl h⟩
theorem EA (l:List Ob) (v:Value) (e d:Nat) (Q:Ob->Prop) (h:Heap) (j:Row 2 AL h v l) (s:∀ x∈l,∀ xs,AL h xs x->Pure prog 74 [.agg ⟨xs⟩,.pointer (some ⟨e,0,none⟩),.pointer (some ⟨d,0,none⟩)] h (tf (Q x))) :
  Pure prog 71 [v,.func (.func 74) #[] #[.pointer (some ⟨e,0,none⟩),.pointer (some ⟨d,0,none⟩)]] h (tf (∀ x∈l,Q x)):=by
 obtain⟨w,p,rfl,z,B⟩:=j.len;refine gM aB func71 Rx Om rfl ?_;conv=>whnf
 refine eu [1,7,8,9] [] (λi:Nat=>i<=l.length/\∀ x∈l.take i,Q x) (λi=>l.length-i)
  (λi=>([.v (.func (.func 74) #[] #[.pointer (some ⟨e,0,none⟩),.pointer (some ⟨d,0,none⟩)]),.v (.slice w l.length p),.v (.int .i64 l.length),.v (.int .i64 i)],[],h)) 0 ⟨Nat.zero_le _,Z⟩ rfl ?_
 rintro i ⟨A,f⟩;conv=>whnf
 apply aD<;>intro q;all_goals conv=>whnf
 ·have c:i < l.length:=by omega
  obtain⟨y,C,xs,g,o,m⟩:=j.get c;have b:=s _ (List.getElem_mem c) xs m;(obtain⟨D,rfl,t⟩:=m;obtain⟨_,_,rfl,_,_⟩:=t.len)
  by_cases a:Q l[i]
  ·rw[ei a]at b;repeat' ((first|refine aP g ?_|refine ay ?_|refine dh o ?_|refine ax b ?_|refine av ?_)<;>conv=>whnf)
   exact cT (i+1) ⟨O,take_one c f a⟩ O rfl
  rw[cS a]at b;repeat' ((first|refine aP g ?_|refine ay ?_|refine dh o ?_|refine ax b ?_|refine av ?_)<;>conv=>whnf)
  exact⟨bS λu=>a (u _ (List.getElem_mem c)),Heap.le_refl h⟩
 have:i=l.length:=by omega
 subst this;rw[List.take_length]at f;exact⟨dx f,Heap.le_refl h⟩
theorem HO (l:List bL) (v:Value) (e d:Nat) (Q:bL->Prop) (h:Heap) (j:Row 4 vC h v l) (s:∀ x∈l,∀ xs,vC h xs x->Pure prog 60 [.agg ⟨xs⟩,.pointer (some ⟨e,0,none⟩),.pointer (some ⟨d,0,none⟩)] h (tf (Q x))) :
  Pure prog 77 [v,.func (.func 60) #[] #[.pointer (some ⟨e,0,none⟩),.pointer (some ⟨d,0,none⟩)]] h (tf (∀ x∈l,Q x)):=by
 obtain⟨y,p,rfl,A,C⟩:=j.len;refine gM aB func77 Zq U rfl ?_;conv=>whnf
 refine eu [1,7,8,9] [] (λi:Nat=>i<=l.length/\∀ x∈l.take i,Q x) (λi=>l.length-i)
  (λi=>([.v (.func (.func 60) #[] #[.pointer (some ⟨e,0,none⟩),.pointer (some ⟨d,0,none⟩)]),.v (.slice y l.length p),.v (.int .i64 l.length),.v (.int .i64 i)],[],h)) 0 ⟨Nat.zero_le _,Z⟩ rfl ?_
 rintro i ⟨B,f⟩;conv=>whnf
 apply aD<;>intro q;all_goals conv=>whnf
 ·have c:i < l.length:=by omega
  obtain⟨z,D,xs,g,o,m⟩:=j.get c;have b:=s _ (List.getElem_mem c) xs m;(obtain⟨E,F,rfl,t,u⟩:=m;obtain⟨_,_,rfl,_,_⟩:=t.len;obtain⟨_,_,rfl,_,_⟩:=u.len)
  by_cases a:Q l[i]
  ·rw[ei a]at b;repeat' ((first|refine aP g ?_|refine ay ?_|refine dh o ?_|refine ax b ?_|refine av ?_)<;>conv=>whnf)
   exact cT (i+1) ⟨O,take_one c f a⟩ O rfl
  rw[cS a]at b;repeat' ((first|refine aP g ?_|refine ay ?_|refine dh o ?_|refine ax b ?_|refine av ?_)<;>conv=>whnf)
  exact⟨bS λw=>a (w _ (List.getElem_mem c)),Heap.le_refl h⟩
 have:i=l.length:=by omega
 subst this;rw[List.take_length]at f;exact⟨dx f,Heap.le_refl h⟩
abbrev fu (b:Nat):Value:=.pointer (some ⟨b,0,none⟩)
structure Ask (h:Heap) (bu bm b5 b6:Nat) (p:Option Addr) (cc:Nat) (q:Option Addr) (d:Nat) (u:aS) (po:Option Addr) (co:Nat) (pf:Option Addr) (cf:Nat) (ps:Option Addr) (cs:Nat) (M:bH):Prop where
 X0:∃ t,h bu=some (.cells [.slice p u.aq.length cc,.slice q u.methods.length d].toArray t (0,0))
 JV:∃ t,h bm=some (.cells [.slice po M.objs.length co,.slice pf M.au.length cf,.slice ps M.said.length cs,.int .i64 M.steps,.int .i64 M.fin,.bool M.out.ref,.int .i64 M.out.n].toArray t (0,0))
 Wa:∃ t,h b5=some (.cells [.func (.func 57) #[] #[fu bm]].toArray t (0,0))
 kb6:∃ t,h b6=some (.cells [.func (.func 60) #[] #[fu bu,fu b5]].toArray t (0,0))
 cls:Row 2 vQ h (.slice p u.aq.length cc) u.aq
 aY:Row 8 dO h (.slice q u.methods.length d) u.methods
 objs:Row 2 AL h (.slice po M.objs.length co) M.objs
 au:Row 4 vC h (.slice pf M.au.length cf) M.au
 said:Row 1 vB h (.slice ps M.said.length cs) M.said
 hT:cC u
section
variable {h:Heap} {bu bm b5 b6:Nat} {p q po pf ps:Option Addr} {cc d co cf cs:Nat} {u:aS} {M:bH}
theorem Ask.val (a:Ask h bu bm b5 b6 p cc q d u po co pf cf ps cs M) (x:Vl):Pure prog 57 [.agg ⟨bM x⟩,fu bm] h (tf (iR M.objs.length x)):=by
 obtain⟨t,b⟩:=a.JV;exact Nb x bm none po _ co _ _ _ _ _ _ t h b
theorem Ask.bp (a:Ask h bu bm b5 b6 p cc q d u po co pf cf ps cs M) (l:List Vl) (v:Value) (c:Row 2 EI h v l):Pure prog 63 [v,.func (.func 57) #[] #[fu bm]] h (tf (∀ x∈l,iR M.objs.length x)) :=
 HM l v bm _ h c λx _ e b=>by
  unfold EI at b;subst b;exact a.val x
theorem Nc (a:Ask h bu bm b5 b6 p cc q d u po co pf cf ps cs M) (f:bL) (xs:List Value) (D:vC h xs f):Pure prog 60 [.agg ⟨xs⟩,fu bu,fu b5] h (tf (tC u M.objs.length f)):=by
 obtain⟨I,J,rfl,t,w⟩:=D;have j:=a.bp f.locals I t;have m:=a.bp f.stack J w;obtain⟨X,N,rfl,Q,T⟩:=t.len;obtain⟨Y,P,rfl,R,V⟩:=w.len;obtain⟨tu,s⟩:=a.X0;obtain⟨t5,C⟩:=a.Wa;have S:=a.aY.len;have o:=Cp (.slice p u.aq.length cc) q u.methods.length d f.aC h;have A:dQ h bu 0 2=some [.slice p u.aq.length cc,.slice q u.methods.length d]:=bK s 2 0 Z;have H:rd h bu 1=some (.slice q u.methods.length d):=bF s rfl;have z:rd h b5 0=some (.func (.func 57) #[] #[fu bm]):=bF C rfl;refine gM aB func60 Za U rfl ?_;conv=>whnf
 by_cases b:0<=f.aC/\f.aC < u.methods.length
 ·rw[ei b]at o;obtain⟨L,W,vs,E,y,x⟩:=a.aY.get (i:=f.aC.toNat) O;have B:u.methods[f.aC.toNat]'O=aY u f.aC:=by unfold aY;rw[List.getD_eq_getElem?_getD,List.getElem?_eq_getElem O];rfl
  rw[B]at x;obtain⟨_,_,_,_,rfl,_,_,_,_,_,K,_,_⟩:=x;obtain⟨_,_,rfl,_,_⟩:=K.len;have F:=aM y (i:=4) rfl;have G:=aM y (i:=5) rfl;refine dh A ?_;conv=>whnf
  refine aO o ?_;conv=>whnf
  repeat' ((first|apply aD<;>intro _|refine aP E ?_|refine ay ?_|refine ld H ?_|refine ld G ?_|refine ld F ?_|refine ld z ?_|refine av ?_|refine aO (qt _ _ _ h) ?_|apply And.intro|exact trivial)<;>conv=>whnf)
  all_goals try first|exact⟨bS (HL O),Heap.le_refl h⟩|(exfalso;omega)
  by_cases e:∀ v∈f.locals,iR M.objs.length v
  ·rw[ei e]at j;refine aO j ?_;conv=>whnf
   refine ld z ?_;conv=>whnf
   by_cases g:∀ v∈f.stack,iR M.objs.length v
   ·rw[ei g]at m;refine aO m ?_;conv=>whnf
    exact⟨dx ((oJ b).2 ⟨O,O,O,e,g⟩),Heap.le_refl h⟩
   rw[cS g]at m;refine aO m ?_;conv=>whnf
   exact⟨bS (λc=>g ((oJ b).1 c).2.2.2.2),Heap.le_refl h⟩
  rw[cS e]at j;refine aO j ?_;conv=>whnf
  exact⟨bS (λc=>e ((oJ b).1 c).2.2.2.1),Heap.le_refl h⟩
 rw[cS b]at o;refine dh A ?_;conv=>whnf
 refine aO o ?_;conv=>whnf
 repeat' ((first|apply And.intro|exact trivial)<;>conv=>whnf)
 all_goals exact⟨bS (λc=>b c.1),Heap.le_refl h⟩
theorem Nf (a:Ask h bu bm b5 b6 p cc q d u po co pf cf ps cs M):Pure prog 65 [fu bm] h (tf (0<=M.steps/\M.steps<=200)):=by
 obtain⟨t,b⟩:=a.JV;refine gM aB func65 Zf U rfl ?_;conv=>whnf
 refine ld (bF b rfl) ?_;conv=>whnf
 refine ax (qt _ _ _ h) ?_;conv=>whnf
 exact⟨eM Iff.rfl,Heap.le_refl h⟩
theorem Ng (a:Ask h bu bm b5 b6 p cc q d u po co pf cf ps cs M):Pure prog 66 [fu bm] h (tf (7<=M.objs.length/\M.objs.length<=207)):=by
 obtain⟨t,b⟩:=a.JV;refine gM aB func66 Zg U rfl ?_;conv=>whnf
 refine ld (bF b rfl) ?_;conv=>whnf
 refine ax (qt _ _ _ h) ?_;conv=>whnf
 exact⟨eM O,Heap.le_refl h⟩
theorem Nh (a:Ask h bu bm b5 b6 p cc q d u po co pf cf ps cs M):Pure prog 67 [fu bm] h (tf (M.au.length<=4/\M.said.length<=200)):=by
 obtain⟨t,b⟩:=a.JV;refine gM aB func67 Zh U rfl ?_;conv=>whnf
 repeat' ((first|apply aD<;>intro _|refine ld (bF (v:=.slice pf M.au.length cf) b rfl) ?_|refine ld (bF (v:=.slice ps M.said.length cs) b rfl) ?_)<;>conv=>whnf)
 all_goals first|exact⟨eM O,Heap.le_refl h⟩|exact⟨bS O,Heap.le_refl h⟩
theorem Ni (a:Ask h bu bm b5 b6 p cc q d u po co pf cf ps cs M):Pure prog 68 [fu bm] h (tf (∀ n∈M.said,isWord n=true)):=by
 obtain⟨t,c⟩:=a.JV;have k:=HN M.said _ (λn=>isWord n=true) h a.said (λx _ e _=>by
  have:=qi x h;by_cases b:isWord x=true
  ·rw[ei b,<-b];exact this
  rw[cS b,<-(show isWord x=false by simpa using b)];exact this)
 refine gM aB func68 Zi U rfl ?_;conv=>whnf
 refine ld (bF c rfl) ?_;conv=>whnf
 refine ax k ?_;conv=>whnf
 exact⟨rfl,Heap.le_refl h⟩
theorem JW (o:Ob) (xs:List Value) (a:AL h xs o):Pure prog 72 [.agg ⟨xs⟩] h (tf (o.cls=1)):=by
 obtain⟨v,rfl,b⟩:=a;obtain⟨_,_,rfl,_,_⟩:=b.len;refine gM aB func72 Zl U rfl ?_;conv=>whnf
 exact⟨eM Iff.rfl,Heap.le_refl h⟩
theorem Ay {b:Type} {sz:Nat} {R:Heap->List Value->b->Prop} {h:Heap} {p:Option Addr} {n c:Nat} {l:List b} (j:Row sz R h (.slice p n c) l) {k:Nat} (y:k<=l.length):Row sz R h (.slice p k c) (l.take k):=by
 obtain⟨v,z,t,e,w,g⟩:=j;simp only[Value.slice.injEq]at e;obtain⟨rfl,rfl,rfl⟩:=e;have i:(l.take k).length=k:=by rw[List.length_take];omega
 refine⟨O,p,c,by rw[i],O,?_⟩;rcases g with rfl|⟨f,s,rfl,m⟩
 ·left;simp
 exact .inr ⟨f,s,rfl,λo x a=>m o x (by
  rw[List.getElem?_take]at a;split at a
  ·exact a
  cases a)⟩
theorem Nj (a:Ask h bu bm b5 b6 p cc q d u po co pf cf ps cs M) (b:7<=M.objs.length):Pure prog 70 [fu bm] h (tf (∀ o∈M.objs.take 7,o.cls=1)):=by
 obtain⟨t,c⟩:=a.JV;obtain⟨_,_,e,i,_⟩:=a.objs.len;simp only[Value.slice.injEq]at e;obtain⟨rfl,_,rfl⟩:=e;have k:=Ez (M.objs.take 7) _ (λo=>o.cls=1) h (Ay a.objs b) (λx _ g f=>JW x g f);refine gM aB func70 Zk U rfl ?_;conv=>whnf
 refine ld (bF c rfl) ?_;conv=>whnf
 refine ay ?_;conv=>whnf
 refine ax k ?_;conv=>whnf
 exact⟨rfl,Heap.le_refl h⟩
theorem JX (a:Ask h bu bm b5 b6 p cc q d u po co pf cf ps cs M) (o:Ob) (xs:List Value) (s:AL h xs o):Pure prog 74 [.agg ⟨xs⟩,fu bu,fu b5] h (tf (CU u M.objs.length o)):=by
 obtain⟨v,rfl,g⟩:=s;have k:=a.bp o.bp v g;obtain⟨t,i,rfl,_,_⟩:=g.len;have e:=JU p cc u o t i h a.cls a.hT;obtain⟨w,m⟩:=a.X0;obtain⟨t5,j⟩:=a.Wa;refine gM aB func74 Zn U rfl ?_;conv=>whnf
 refine ld (bF m rfl) ?_;conv=>whnf
 by_cases b:V9 u o
 ·rw[ei b]at e;refine ax e ?_;conv=>whnf
  refine ld (bF j rfl) ?_;conv=>whnf
  by_cases c:∀ x∈o.bp,iR M.objs.length x
  ·rw[ei c]at k;refine ax k ?_;conv=>whnf
   exact⟨dx ⟨c,b⟩,Heap.le_refl h⟩
  rw[cS c]at k;refine ax k ?_;conv=>whnf
  exact⟨bS λf=>c f.1,Heap.le_refl h⟩
 rw[cS b]at e;refine ax e ?_;conv=>whnf
 exact⟨bS λf=>b f.2,Heap.le_refl h⟩
theorem Nk (a:Ask h bu bm b5 b6 p cc q d u po co pf cf ps cs M):Pure prog 73 [fu bm,fu bu,fu b5] h (tf (∀ o∈M.objs,CU u M.objs.length o)):=by
 obtain⟨t,b⟩:=a.JV;have k:=EA M.objs _ bu b5 (λo=>CU u M.objs.length o) h a.objs (λx _ e c=>JX a x e c);refine gM aB func73 Zm U rfl ?_;conv=>whnf
 refine ld (bF b rfl) ?_;conv=>whnf
 refine ax k ?_;conv=>whnf
 exact⟨rfl,Heap.le_refl h⟩
theorem Nl (a:Ask h bu bm b5 b6 p cc q d u po co pf cf ps cs M):Pure prog 76 [fu bm,fu b6] h (tf (∀ f∈M.au,tC u M.objs.length f)):=by
 obtain⟨t,b⟩:=a.JV;obtain⟨t6,c⟩:=a.kb6;have k:=HO M.au _ bu b5 (λf=>tC u M.objs.length f) h a.au (λx _ g e=>Nc a x g e);refine gM aB func76 Zp U rfl ?_;conv=>whnf
 refine ld (bF b rfl) ?_;conv=>whnf
 refine ld (bF c rfl) ?_;conv=>whnf
 refine ax k ?_;conv=>whnf
 exact⟨rfl,Heap.le_refl h⟩
theorem JY (a:Ask h bu bm b5 b6 p cc q d u po co pf cf ps cs M):Pure prog 78 [fu b5,fu bm] h (tf (iR M.objs.length M.out/\uI M)):=by
 obtain⟨t,i⟩:=a.JV;obtain⟨t5,j⟩:=a.Wa;have c:=a.val M.out;have b:=JT (.slice po M.objs.length co) (.slice ps M.said.length cs) pf cf M h;unfold bM at c;unfold aE at b;have m:dQ h bm 5 2=some [.bool M.out.ref,.int .i64 M.out.n]:=bK i 2 5 Z;have o:dQ h bm 0 7=some _:=bK i 7 0 Z;refine gM aB func78 Zr U rfl ?_;conv=>whnf
 refine ld (bF j rfl) ?_;conv=>whnf
 refine dh m ?_;conv=>whnf
 by_cases f:iR M.objs.length M.out
 ·rw[ei f]at c;refine ax c ?_;conv=>whnf
  refine dh o ?_;conv=>whnf
  by_cases e:uI M
  ·rw[ei e]at b;refine ax b ?_;conv=>whnf
   exact⟨dx ⟨f,e⟩,Heap.le_refl h⟩
  rw[cS e]at b;refine ax b ?_;conv=>whnf
  exact⟨bS λg=>e g.2,Heap.le_refl h⟩
 rw[cS f]at c;refine ax c ?_;conv=>whnf
 exact⟨bS λg=>f g.1,Heap.le_refl h⟩
def asks (bu bm b5 b6:Nat):List Value:=[.func (.func 65) #[] #[fu bm],.func (.func 66) #[] #[fu bm],.func (.func 67) #[] #[fu bm],.func (.func 68) #[] #[fu bm],.func (.func 70) #[] #[fu bm],.func (.func 73) #[] #[fu bm,fu bu,fu b5],.func (.func 76) #[] #[fu bm,fu b6],.func (.func 78) #[] #[fu b5,fu bm]]
def oZ (u:aS) (M:bH):List Prop:=[0<=M.steps/\M.steps<=200,7<=M.objs.length/\M.objs.length<=207,M.au.length<=4/\M.said.length<=200,∀ n∈M.said,isWord n=true,∀ o∈M.objs.take 7,o.cls=1,∀ o∈M.objs,CU u M.objs.length o,∀ f∈M.au,tC u M.objs.length f,iR M.objs.length M.out/\uI M]
theorem Du (u:aS) (M:bH):(∀ c∈oZ u M,c)↔mE u M:=by
 rw[iJ];simp only[oZ,List.mem_cons,List.not_mem_nil,or_false,forall_eq_or_imp,forall_eq];constructor
 ·rintro⟨j,m,a,o,s,b,t,e⟩;refine⟨⟨j,m,a.1,a.2⟩,e.1,λi f=>⟨b _ (List.getElem_mem f),λx=>s _ ?_⟩,t,o,e.2⟩;rw[List.mem_take_iff_getElem];exact⟨i,O,rfl⟩
 rintro⟨⟨j,m,a,o⟩,s,b,t,e,v⟩;refine⟨j,m,⟨a,o⟩,e,λw g=>?_,λw g=>?_,t,s,v⟩
 ·rw[List.mem_take_iff_getElem]at g;obtain⟨i,f,rfl⟩:=g;exact(b i O).2 O
 obtain⟨i,f,rfl⟩:=List.mem_iff_getElem.1 g;exact(b i f).1
theorem JZ (a:Ask h bu bm b5 b6 p cc q d u po co pf cf ps cs M) {j:Nat} {t8:TypeId} (f:h j=some (.cells (asks bu bm b5 b6).toArray t8 (0,0))):Pure prog 64 [.slice (some ⟨j,0,none⟩) 8 8] h (tf (mE u M)):=by
 refine gM aB func64 Ze U rfl ?_;conv=>whnf
 refine eu [5,6,7] [] (λi:Nat=>i<=8/\∀ c∈(oZ u M).take i,c) (λi=>8-i)
  (λi=>([.v (.slice (some ⟨j,0,none⟩) 8 8),.v (.int .i64 8),.v (.int .i64 i)],[],h)) 0 ⟨Nat.zero_le _,Z⟩ rfl ?_
 rintro i ⟨x,o⟩;conv=>whnf
 apply aD<;>intro t;all_goals conv=>whnf
 ·have s:i < (oZ u M).length:=by simp[oZ];omega
  have e:(oZ u M)[i]->∀ c∈(oZ u M).take (i+1),c:=λm=>take_one (Q:=λc=>c) s o m;have g:¬(oZ u M)[i]->¬mE u M:=λm w=>m ((Du u M).2 w _ (List.getElem_mem s));have v:i=0\/i=1\/i=2\/i=3\/i=4\/i=5\/i=6\/i=7:=by omega
  refine ay ?_;conv=>whnf
  refine ptr ?_;conv=>whnf
  rcases v with rfl|rfl|rfl|rfl|rfl|rfl|rfl|rfl
  ·refine ld (bF (i:=0) f rfl) ?_;conv=>whnf
   refine gF (Nf a) (λb=>?_) (λb=>?_)
   ·conv=>whnf
    refine av ?_;conv=>whnf
    exact cT (0+1) ⟨O,e b⟩ O rfl
   conv=>whnf
   exact⟨bS (g b),Heap.le_refl h⟩
  ·refine ld (bF (i:=1) f rfl) ?_;conv=>whnf
   refine gF (Ng a) (λb=>?_) (λb=>?_)
   ·conv=>whnf
    refine av ?_;conv=>whnf
    exact cT (1+1) ⟨O,e b⟩ O rfl
   conv=>whnf
   exact⟨bS (g b),Heap.le_refl h⟩
  ·refine ld (bF (i:=2) f rfl) ?_;conv=>whnf
   refine gF (Nh a) (λb=>?_) (λb=>?_)
   ·conv=>whnf
    refine av ?_;conv=>whnf
    exact cT (2+1) ⟨O,e b⟩ O rfl
   conv=>whnf
   exact⟨bS (g b),Heap.le_refl h⟩
  ·refine ld (bF (i:=3) f rfl) ?_;conv=>whnf
   refine gF (Ni a) (λb=>?_) (λb=>?_)
   ·conv=>whnf
    refine av ?_;conv=>whnf
    exact cT (3+1) ⟨O,e b⟩ O rfl
   conv=>whnf
   exact⟨bS (g b),Heap.le_refl h⟩
  ·refine ld (bF (i:=4) f rfl) ?_;conv=>whnf
   refine gF (Nj a (o (7<=M.objs.length/\M.objs.length<=207) (by simp[oZ])).1) (λb=>?_) (λb=>?_)
   ·conv=>whnf
    refine av ?_;conv=>whnf
    exact cT (4+1) ⟨O,e b⟩ O rfl
   conv=>whnf
   exact⟨bS (g b),Heap.le_refl h⟩
  ·refine ld (bF (i:=5) f rfl) ?_;conv=>whnf
   refine gF (Nk a) (λb=>?_) (λb=>?_)
   ·conv=>whnf
    refine av ?_;conv=>whnf
    exact cT (5+1) ⟨O,e b⟩ O rfl
   conv=>whnf
   exact⟨bS (g b),Heap.le_refl h⟩
  ·refine ld (bF (i:=6) f rfl) ?_;conv=>whnf
   refine gF (Nl a) (λb=>?_) (λb=>?_)
   ·conv=>whnf
    refine av ?_;conv=>whnf
    exact cT (6+1) ⟨O,e b⟩ O rfl
   conv=>whnf
   exact⟨bS (g b),Heap.le_refl h⟩
  refine ld (bF (i:=7) f rfl) ?_;conv=>whnf
  refine gF (JY a) (λb=>?_) (λb=>?_)
  ·conv=>whnf
   refine av ?_;conv=>whnf
   exact cT (7+1) ⟨O,e b⟩ O rfl
  conv=>whnf
  exact⟨bS (g b),Heap.le_refl h⟩
 have:i=8:=by omega
 subst this;exact⟨dx ((Du u M).1 (by simpa [oZ]using o)),Heap.le_refl h⟩
end
theorem HP (I mc:List Value) (u:aS) (M:bH) (h:Heap) (hu:cZ h I u) (hT:cC u) (hM:sG h mc M):Pure prog 30 [.agg ⟨I⟩,.agg ⟨mc⟩] h (tf (mE u M)):=by
 obtain⟨D,q,H,w,rfl,hcs,kS,ko,hl2⟩:=hu.form;obtain⟨vo,vf,vs,rfl,J,K,L⟩:=hM;obtain⟨F,t,rfl,hco,Qr⟩:=J.len;obtain⟨E,s,rfl,hcf,KA⟩:=K.len;obtain⟨G,v,rfl,hcS,V8⟩:=L.len;unfold aE;refine gM aB func30 YK U rfl ?_;conv=>whnf
 refine dn [.slice D u.aq.length q,.slice H u.methods.length w] rfl (λi h1 hbu e1 l1 R=>?_);conv=>whnf
 refine dn [.slice F M.objs.length t,.slice E M.au.length s,.slice G M.said.length v,.int .i64 M.steps,.int .i64 M.fin,.bool M.out.ref,.int .i64 M.out.n] rfl (λg h2 FM e2 B S=>?_);conv=>whnf
 refine dn [.nilFunc] rfl (λd h3 vG e3 l3 T=>?_);conv=>whnf
 refine vI T [.func (.func 57) #[] #[fu g]] Z rfl (λf P V=>?_);conv=>whnf
 refine dn [.nilFunc] rfl (λe h5 A e5 l5 W=>?_);conv=>whnf
 refine vI W [.func (.func 60) #[] #[fu i,fu d]] Z rfl (λx Q X=>?_);conv=>whnf
 refine dn (asks i g d e) rfl (λb8 y hb8 e7 o Y=>?_);have n35:f e=none:=A;have k4:∀ z,z≠d->f z=h3 z:=λz j=>by rw[P];simp[Heap.set,j]
 have k6:∀ z,z≠e->x z=h5 z:=λz j=>by rw[Q];simp[Heap.set,j]
 have l24:h2.le f:=λz p c=>by
  rw[k4 z (by rintro rfl;rw[vG]at c;cases c)];exact l3 z p c
 have C:f.le x:=λz p c=>by
  rw[k6 z (by rintro rfl;rw[A]at c;cases c)];exact l5 z p c
 have m:=Heap.le_trans l24 (Heap.le_trans C o);have a:h.le y:=Heap.le_trans l1 (Heap.le_trans B m);have N:Ask y i g d e D q H w u F t E s G v M:=⟨⟨_,m _ _ (B _ _ R)⟩,⟨_,m _ _ S⟩,⟨_,o _ _ (C _ _ V)⟩,⟨_,o _ _ X⟩,hcs.le a (λ_ _ b=>b.le a),kS.le a (λ_ _ b=>b.le a),J.le a (λ_ _ b=>AL.le a b),K.le a (λ_ _ b=>vC.le a b),L.le a (λ_ _ b=>b),hT⟩
 conv=>whnf
 refine ax (JZ N Y) ?_;conv=>whnf
 exact⟨rfl,a⟩
theorem Az (b mc:List Value) (u:aS) (M:bH) (h:Heap) (d:cZ h b u) (f:sG h mc M):Pure prog 9 [.agg ⟨b⟩,.agg ⟨mc⟩] h (tf (cC u/\mE u M)):=by
 have i:=Fp b u h d;have g:=λa=>HP b mc u M h d a f;obtain⟨G,p,K,v,rfl,z,C,A,B⟩:=d.form;obtain⟨N,L,P,rfl,j,m,o⟩:=f;obtain⟨I,s,rfl,y,E⟩:=j.len;obtain⟨H,q,rfl,x,D⟩:=m.len;obtain⟨J,t,rfl,w,F⟩:=o.len;unfold aE at g ⊢;refine gM aB func9 F9 U rfl ?_;conv=>whnf
 refine gF i (λa=>?_) (λa=>?_)
 ·conv=>whnf
  refine gF (g a) (λc=>?_) (λc=>?_)
  ·conv=>whnf
   exact⟨dx ⟨a,c⟩,Heap.le_refl h⟩
  conv=>whnf
  exact⟨bS λe=>c e.2,Heap.le_refl h⟩
 conv=>whnf
 exact⟨bS λe=>a e.1,Heap.le_refl h⟩
open Go.Vc Go.Proofs.Tryz
set_option maxRecDepth 100000
set_option maxHeartbeats 4000000
def sJ (u:aS) (M R:bH):Prop:=(cC u/\mE u M->R=dA u M)/\(¬(cC u/\mE u M)->R=ie)
theorem EB (u:aS) (M:bH):∃ R,sJ u M R:=by
 by_cases h:cC u/\mE u M
 ·exact⟨_,λ_=>rfl,λa=>absurd h a⟩
 exact⟨ie,λb=>absurd b h,λ_=>rfl⟩
theorem AA (b mc:List Value) (u:aS) (M:bH) (h:Heap) (c:cZ h b u) (j:qy h mc M) (f:sG h mc M) (R:bH) (d:sJ u M R):bI prog 5 [.agg ⟨b⟩,.agg ⟨mc⟩] h (Je h R):=by
 have e:=Az b mc u M h c f;have step:=λm i=>BH mc b u M h j c m i;obtain⟨Q,w,W,A,rfl,G,J,H,I⟩:=c.form;obtain⟨vo,Y,vs,rfl,s,t,v⟩:=f;obtain⟨T,y,rfl,F,L⟩:=s.len;obtain⟨S,x,rfl,E,K⟩:=t.len;obtain⟨V,z,rfl,D,N⟩:=v.len;unfold aE at e step ⊢;refine bT aB func5 F5 U rfl ?_;conv=>whnf
 refine gF e (λa=>?_) (λa=>?_);all_goals conv=>whnf
 ·rw[d.1 a];refine aG (step a.1 (λo=>a.2.Mi a.1 o)) (λX C p=>?_);obtain⟨q,P,B,rfl,own,nd,g⟩:=p;obtain⟨_,_,_,_,_,_,rfl⟩:=own.jv;unfold jv aE at own ⊢;conv=>whnf
  exact⟨q,_,B,rfl,own,nd,g⟩
 rw[d.2 a];exact⟨Heap.le_refl h,_,[],rfl,pP h,λ_=>Z,Z⟩
theorem AB (i mc:List Value) (u:aS) (M:bH) (h:Heap) (p:cZ h i u) (w:qy h mc M) (y:sG h mc M) (R:bH) (v:sJ u M R):bI prog 7 [.agg ⟨i⟩,.agg ⟨mc⟩] h (Je h R):=by
 have x:=xh i mc u M h p y;have step:=λa f D C m E=>wM mc i u M h a f w p D C m E;have q:=sq mc M h w;obtain⟨aa,P,ab,V,rfl,hcs,kS,ko,hl2⟩:=p.form;obtain⟨vo,vf,vs,rfl,K,L,N⟩:=y;obtain⟨po,S,rfl,Y,Qr⟩:=K.len;obtain⟨pf,Q,rfl,X,KA⟩:=L.len;obtain⟨ps,T,rfl,W,V8⟩:=N.len;unfold aE at x step q ⊢;refine bT aB func7 F7 U rfl ?_;conv=>whnf
 refine gF x (λb=>?_) (λb=>?_);all_goals conv=>whnf
 ·rw[v.1 b];have d:=b.2;have g:=d.steps.2;have l2:=d.len.2;have l3:=d.iS;have I:(M.fin≠0\/M.steps=200\/M.objs.length=207\/M.said.length=200)->dA u M=M:=λG=>by
   unfold dA;rw[if_pos O]
  have z:¬(M.fin≠0\/M.steps=200\/M.objs.length=207\/M.said.length=200)->∃ a f,M.au=a++[f]/\M.fin=0/\lE u a f M=dA u M:=λG=>by
   have F:M.au≠[]:=by
    rcases d.fin with c|c|c
    ·exact c.2.1
    ·omega
    omega
   rcases List.eq_nil_or_concat M.au with e|⟨t,s,e⟩
   ·exact absurd e F
   have e:M.au=t++[s]:=by simpa using e
   exact⟨t,s,e,O,(yg e O).symm⟩
  clear d;repeat' ((first|apply aD<;>intro _|apply aU<;>intro _)<;>conv=>whnf)
  all_goals first
   | (
    rw[I O];refine aG q (λJ c o=>?_);obtain⟨g,H,B,rfl,own,nd,j⟩:=o;obtain⟨_,_,_,_,_,_,rfl⟩:=own.jv;unfold jv aE at own ⊢;conv=>whnf
    exact⟨g,_,B,rfl,own,nd,j⟩)
   | (
    obtain⟨a,f,m,A,e⟩:=z O;rw[<-e];refine aG (step a f b.1 b.2 m A) (λJ c o=>?_);obtain⟨g,H,B,rfl,own,nd,j⟩:=o;obtain⟨_,_,_,_,_,_,rfl⟩:=own.jv;unfold jv aE at own ⊢;conv=>whnf
    exact⟨g,_,B,rfl,own,nd,j⟩)
 rw[v.2 b];exact⟨Heap.le_refl h,_,[],rfl,pP h,λ_=>Z,Z⟩
def Ch (a b:List Ob):Prop:=a.length<=b.length/\b.length<=a.length+1/\∃ j,∀ i (c:i < a.length),∃ o,b[i]? = some o/\o.cls=a[i].cls/\o.bp.length=a[i].bp.length/\(i≠j\/b.length=a.length+1->o.bp=a[i].bp)
theorem Ch.refl (a:List Ob):Ch a a:=⟨Nat.le_refl _,O,0,λi b=>⟨a[i],List.getElem?_eq_getElem b,rfl,rfl,λ_=>rfl⟩⟩
theorem Ch.more (a:List Ob) (o:Ob):Ch a (a++[o]):=⟨Z,Z,0,λi b=>⟨a[i],by rw[List.getElem?_append_left b,List.getElem?_eq_getElem b],rfl,rfl,λ_=>rfl⟩⟩
theorem Ch.put (a:List Ob) (n:Int) (k:Int) (v:Vl):Ch a (fA a n (putAt (aK a n).bp k v)):=by
 unfold fA;refine⟨Z,Z,(n-1).toNat,λi b=>?_⟩;by_cases e:(n-1).toNat=i
 ·subst e;have c:aK a n=a[(n-1).toNat]:=by unfold aK;rw[List.getD_eq_getElem?_getD,List.getElem?_eq_getElem b];rfl
  refine⟨_,by rw[List.getElem?_set_self b],by simp only;rw[c],by simp only[putAt,List.length_set];rw[c],λh=>?_⟩;rcases h with h|h
  ·exact absurd rfl h
  simp at h
 exact⟨a[i],by rw[List.getElem?_set_ne e,List.getElem?_eq_getElem b],rfl,rfl,λ_=>rfl⟩
theorem vF {u:aS} {x:dc} {j:List Vl} {objs d:List Ob} {f f':bL} (h:bt u x j objs f=.ok (d,f')):Ch objs d:=by
 have c:∀ {n:Int} {b:Bool} {o:Ob},dJ objs n b=.ok o->o=aK objs n:=λ{n b o} h=>by
  unfold dJ at h;repeat' split at h
  all_goals first
   | (cases h;done)
   | (simp only[Except.ok.injEq]at h;exact h.symm)
 have i:∀ {y:Vl} {k n:Int} {o:Ob},mz objs y k n=.ok o->o=aK objs y.n:=λ{y k n o} h=>by
  unfold mz at h;split at h
  ·cases h
  rename_i m g;split at h
  ·simp only[Except.ok.injEq]at h;subst h;exact c g
  cases h
 unfold bt at h;simp only[nq]at h;repeat' split at h
 all_goals first
  | (cases h;done)
  | (have:=j4 h;subst this;first|exact Ch.more _ _|exact Ch.refl _)
  | (rename_i a;have e:=i a;simp only[Except.ok.injEq,Prod.mk.injEq]at h;obtain⟨rfl,_⟩:=h;rw[e];exact Ch.put _ _ _ _)
  | (rename_i a;have e:=c a;simp only[Except.ok.injEq,Prod.mk.injEq]at h;obtain⟨rfl,_⟩:=h;rw[e];exact Ch.put _ _ _ _)
  | (simp only[Except.ok.injEq,Prod.mk.injEq]at h;obtain⟨rfl,_⟩:=h;exact Ch.refl _)
theorem J0 {u:aS} {x:dc} {e:List Vl} {objs a:List Ob} {f g:bL} {c d:List Int} {b:Bool} (h:eF u x e objs f c=.ok (a,g,d,b)):Ch objs a :=
 sx (C:=λo _=>Ch objs o) (Ch.refl _) (λ_ _=>Ch.refl _) (λh _=>h) (λh=>vF h) h
theorem Nm {u:aS} {fs:List bL} {f:bL} {M M':bH} (h:ig u fs f M=.ok M'):Ch M.objs M'.objs:=by
 have same:∀ {N:bH},N.objs=M.objs->Ch M.objs N.objs:=λa=>by rw[a];exact Ch.refl _
 unfold ig at h;simp only at h;split at h
 ·cases h
 split at h
 ·cases h
 split at h
 ·unfold eN at h;simp only[lq]at h;repeat' split at h
  all_goals first
   | (cases h;done)
   | (have b:=uR h;exact same b.1)
   | (simp only[Except.ok.injEq]at h;subst h;first|exact same rfl|exact same kC.1)
 split at h
 ·cases h
 rename_i e g i d c;simp only[Except.ok.injEq]at h;subst h;exact J0 c
theorem HQ (u:aS) (M:bH):Ch M.objs (dA u M).objs:=by
 unfold dA;split
 ·exact Ch.refl _
 split
 ·exact Ch.refl _
 split
 ·rename_i a h;show Ch M.objs a.objs;exact Nm h
 split
 ·exact Ch.refl _
 show Ch M.objs (bU u _ M).objs;rw[kC.1];exact Ch.refl _
def FB (f:bL):Prop:=f.locals.length<=1000/\f.stack.length<=1000
def VB (l:List Ob):Prop:=∀ o∈l,o.bp.length<=1000
theorem AD {objs b:List Ob} {f f':bL} {v:Vl} (a:FB f) (h:cM objs f v=.ok (b,f')):FB f':=by
 unfold cM at h;split at h
 ·simp only[Except.ok.injEq,Prod.mk.injEq]at h;obtain⟨_,rfl⟩:=h;exact⟨a.1,by simp;omega⟩
 cases h
theorem Cq {u:aS} {x:dc} {B:List Vl} {objs b:List Ob} {f f':bL} (q:cn u.aq) (y:x.kind=12->x.a < u.aq.length) (c:VB objs) (e:FB f) (h:bt u x B objs f=.ok (b,f')):VB b/\FB f':=by
 have A:Ch objs b->b.length=objs.length->VB b:=λj i o a=>by
  obtain⟨z,t,rfl⟩:=List.mem_iff_getElem.1 a;obtain⟨_,_,C,v⟩:=j;obtain⟨D,d,_,m,_⟩:=v z O;rw[List.getElem?_eq_getElem t]at d;simp only[Option.some.injEq]at d;rw[d,m];exact c _ (List.getElem_mem _)
 have s:=vF h;have g:∀(l:List Int) (k:Int),l.length<=1000->VB (objs++[⟨k,l.map nothing⟩]):=λl k w o a=>by
  rcases List.mem_append.1 a with a|a
  ·exact c o a
  rw[List.mem_singleton.1 a];simpa using w
 unfold bt at h;simp only[nq]at h;repeat' split at h
 all_goals first
  | (cases h;done)
  | (have i:=j4 h;have p:=AD e h;subst i;refine⟨?_,p⟩;first|exact c|(refine g _ _ ?_;have:=ec q (y (by assumption));omega)|(refine g _ _ ?_;simp only[List.length_replicate];omega))
  | (simp only[Except.ok.injEq,Prod.mk.injEq]at h;obtain⟨rfl,rfl⟩:=h;exact⟨A s (by simp[fA]),e⟩)
  | (simp only[Except.ok.injEq,Prod.mk.injEq]at h;obtain⟨rfl,rfl⟩:=h;exact⟨c,e⟩)
theorem Dv {u:aS} (a:cC u) (k:Int):(aY u k).locals<=3:=by
 unfold aY;rw[List.getD_eq_getElem?_getD];cases h:u.methods[k.toNat]? with
 | none=>simp[Kf]
 | some m=>exact(a.2.2.2.1 m (List.mem_of_getElem? h)).1.2.2.2.2.1
structure TB (n:Nat) (M:bH):Prop where
 ob:VB M.objs
 fr:∀ f∈M.au,FB f
 nf:M.au.length<=n
theorem xj {u:aS} {k:Int} {n:Nat} {M:bH} (h:TB n M):TB n (bU u k M):=by
 unfold bU;split
 ·rename_i l c;obtain⟨i,f,r,j,e,_,rfl⟩:=nB c;have b:∀ g,g∈i++f::r->FB g:=λg a=>h.fr g (by rw[<-e]at a;simpa using a);have d:=congrArg List.length e;simp only[List.length_reverse,List.length_append,List.length_cons]at d;refine⟨h.ob,λg a=>?_,by simp;have:=h.nf;omega⟩;simp only[List.mem_reverse,List.mem_cons]at a;rcases a with rfl|a
  ·exact⟨(b f Z).1,Z⟩
  exact b g (by simp[a])
 exact⟨h.ob,Z,Z⟩
theorem AE {u:aS} (d:cC u) {to:Int} {c:List Vl} {M M':bH} {n:Nat} (e:c.length<=1000) (b:TB n M) (h:eZ u to c M=.ok M'):TB (n+1) M':=by
 unfold eZ at h;split at h
 ·cases h
 simp only[Except.ok.injEq]at h;subst h;refine⟨b.ob,λg a=>?_,by simp;have:=b.nf;omega⟩;rcases List.mem_append.1 a with a|a
 ·exact b.fr g a
 rw[List.mem_singleton.1 a];have:=Dv d to;exact⟨by simp[eY];omega,by simp[eY]⟩
theorem Nn {u:aS} (j:cC u) {M M':bH} {fs:List bL} {f:bL} {n:Nat} (b:TB n M) (m:M.au=fs++[f]) (E:0<=f.aC/\f.aC < u.methods.length) (V:0<=f.pc) (h:ig u fs f M=.ok M'):TB (n+1) M':=by
 have t:FB f:=b.fr f (by rw[m];simp);have i:∀ g∈fs,FB g:=λg c=>b.fr g (by rw[m];simp[c]);have G:=b.nf;rw[m,List.length_append,List.length_singleton]at G;unfold ig at h;simp only at h;split at h
 ·cases h
 rename_i T;have o:∀ x,x=(aY u f.aC).code.getD f.pc.toNat dj->x.kind=12->x.a < u.aq.length:=λx y a=>by
  have v:f.pc.toNat < (aY u f.aC).code.length:=by omega
  have z:x=(aY u f.aC).code[f.pc.toNat]:=by rw[y,List.getD_eq_getElem?_getD,List.getElem?_eq_getElem v];rfl
  have A:=(j.aY E).2.1.2.2.2.1 x (by rw[z];exact List.getElem_mem v);obtain⟨X,w,Q⟩:=x;simp only at a;subst a;have:=(aL (p:=5) (q:=0) rfl).1 A;simp[br]at this;show w < u.aq.length;omega
 generalize L:(aY u f.aC).code.getD f.pc.toNat dj=x at h;have o:=o x L.symm;split at h
 ·cases h
 rename_i eB rest J;obtain⟨ws,_,_,_,I⟩:=iz J;have D:=congrArg List.length I;rw[List.length_append]at D;have S:=t.2;have e:FB {f with stack:=rest}:=⟨t.1,by simp only;omega⟩
 have d:TB n {M with au:=fs++[{f with stack:=rest}]}:=⟨b.ob,λg c=>by
  rcases List.mem_append.1 c with c|c
  ·exact i g c
  rw[List.mem_singleton.1 c];exact e,by simp only[List.length_append,List.length_singleton];omega⟩
 have up:∀ {N:bH},TB n N->TB (n+1) N:=λ{N} h=>⟨h.ob,h.fr,by have:=h.nf;omega⟩
 split at h
 ·unfold eN at h;simp only at h;split at h
  ·exact AE j O d h
  split at h
  ·split at h
   ·cases h
   exact AE j O d h
  split at h
  ·unfold lq at h;split at h
   ·simp only[Except.ok.injEq]at h;subst h;exact⟨b.ob,Z,Z⟩
   rename_i g c;split at h
   ·simp only[Except.ok.injEq]at h;subst h;have B:g∈fs:=List.mem_of_getLast? c;refine⟨b.ob,λk a=>?_,by simp;omega⟩;rcases List.mem_append.1 a with a|a
    ·exact i k (List.dropLast_subset _ a)
    rw[List.mem_singleton.1 a];exact⟨(i g B).1,by simp;omega⟩
   cases h
  split at h
  ·split at h
   ·cases h
   simp only[Except.ok.injEq]at h;subst h;exact up (xj d)
  simp only[Except.ok.injEq]at h;subst h;exact up d
 split at h
 ·cases h
 rename_i Y g said R F;simp only[Except.ok.injEq]at h;subst h;have:=sx (C:=λP g=>VB P/\FB g) ⟨b.ob,e⟩ (λW aa=>⟨b.ob,by simpa [FB]using e⟩) (λs H=>⟨s.1,AD s.2 H⟩) (λK=>Cq j.1 o b.ob e K) F;refine⟨this.1,λk a=>?_,by simp;omega⟩;rcases List.mem_append.1 a with a|a
 ·exact i k a
 rw[List.mem_singleton.1 a];exact this.2
theorem HR {u:aS} (i:cC u) {M:bH} {n:Nat} (h:mE u M) (a:TB n M):TB (n+1) (dA u M):=by
 have up:∀ {N:bH} {s f:Int} {n:Nat},TB n N->TB (n+1) {N with steps:=s,fin:=f}:=λ{N _ _ _} h=>⟨h.ob,h.fr,by have:=h.nf;simp only;omega⟩
 unfold dA;split
 ·exact⟨a.ob,a.fr,by have:=a.nf;omega⟩
 split
 ·exact⟨a.ob,a.fr,by have:=a.nf;omega⟩
 rename_i f b;have g:M.au=M.au.dropLast++[f]:=by
  have d:M.au≠[]:=by intro j;rw[j]at b;cases b
  have:=List.dropLast_concat_getLast d;rw[List.getLast?_eq_some_getLast d]at b;simp only[Option.some.injEq]at b;rw[b]at this;exact this.symm
 have c:=h.gh f (List.mem_of_getLast? b);split
 ·rename_i m e;have:=Nn i a g c.1 c.2.1.1 e;exact⟨this.ob,this.fr,this.nf⟩
 split
 ·exact up (f:=3) a
 have:=xj (u:=u) (k:=‹Int›) a;exact⟨this.ob,this.fr,by have:=this.nf;simp only;omega⟩
theorem Cr {u:aS} (a:cC u) {M:bH} (h:mE u M):Dq (dA u M):=by
 have p:=h.small a;have t0:TB 4 M:=⟨λo c=>by
  rcases(h.objs o c).2 with ⟨_,d⟩|⟨_,d,m⟩
  ·omega
  ·have:=ec a.1 d;omega,λf b=>by
  have g:=h.gh f b;have:=Dv a f.aC;have:=g.2.2.1;have:=g.2.2.2.1;exact⟨O,O⟩,h.nf⟩
 have t:=HR a h t0;obtain⟨i,j,_⟩:=HQ u M;have q:=h.len.2;have s:=h.iS;refine⟨by unfold xg;omega,λo c=>by have:=t.ob o c;unfold Dn xg;omega,by have:=t.nf;unfold xg;omega,λf b=>by have:=t.fr f b;unfold Dp xg FB at *;omega,?_⟩;rcases pO (u:=u) (M:=M)with e|e
 ·rw[e.1];unfold xg;omega
 have:=e.2.2.1;unfold xg;omega
theorem sJ.JQ {u:aS} {M R:bH} (b:sJ u M R):Dq R:=by
 by_cases a:cC u/\mE u M
 ·rw[b.1 a];exact Cr a.1 a.2
 rw[b.2 a];exact⟨by simp[ie,xg],by simp[ie],by simp[ie,xg],by simp[ie],by simp[ie,xg]⟩
section
variable {u u':aS}
end
open Go.Vc Go.Proofs.Tryz
set_option maxRecDepth 100000
set_option maxHeartbeats 4000000
section
variable {u u':aS}
end
open Go.Vc Go.Proofs.Tryz
set_option maxRecDepth 100000
set_option maxHeartbeats 4000000
theorem Cs {u:aS} {k:Int} {a:List Vl} {M M':bH} (h:eZ u k a M=.ok M'):M'.said=M.said:=by
 unfold eZ at h;split at h
 ·cases h
 simp only[Except.ok.injEq]at h;rw[<-h]
theorem td {u:aS} {n:Int} {M:bH}:(bU u n M).said=M.said:=by
 unfold bU;split<;>rfl
theorem AF {u:aS} {x:dc} {a:List Vl} {fs:List bL} {M M':bH} (h:eN u x a fs M=.ok M'):M'.said=M.said:=by
 unfold eN at h;simp only[lq]at h;repeat' split at h
 all_goals first
  | (cases h;done)
  | exact Cs h
  | (simp only[Except.ok.injEq]at h;rw[<-h];exact td)
  | (simp only[Except.ok.injEq]at h;rw[<-h])
theorem j8 {objs d:List Ob} {f g:bL} {a b:List Int} {v:Vl} {c:Bool} (h:dV objs f a v=.ok (d,g,b,c)):b=a:=by
 unfold dV at h;split at h
 ·simp only[Except.ok.injEq,Prod.mk.injEq]at h;exact h.2.2.1.symm
 cases h
theorem mU {c:Prop} [Decidable c] {a b r:HW} {K:Prop} (h:(if c then a else b)=r) (x:a=r->K) (y:b=r->K):K:=by
 split at h
 ·exact x h
 exact y h
theorem EC {u:aS} {x:dc} {p:List Vl} {objs d:List Ob} {f g:bL} {a b:List Int} {c:Bool} (h:eF u x p objs f a=.ok (d,g,b,c)) (j:x.kind≠24):b=a:=by
 have ok:∀ {m:List Ob} {f1:bL} {i:Bool},(Except.ok (m,f1,a,i):HW)=.ok (d,g,b,c)->b=a:=λe=>by
  simp only[Except.ok.injEq,Prod.mk.injEq]at e;exact e.2.2.1.symm
 have o:∀ {r:tw} {v:Vl},(match r with | .ok (_,g)=>dV objs g a v | .error e=>.error e)=(.ok (d,g,b,c):HW)->b=a:=λ{r v} e=>by
  cases r with
  | ok q=>exact j8 e
  | error k=>cases e
 unfold eF at h;simp only at h;refine mU h j8 λh=>mU h j8 λh=>mU h j8 λh=>mU h ok λh=>mU h ok λh=>mU h o λh=>mU h (λh=>mU h j8 nofun) λh=>mU h ok λh=>mU h ok λh=>mU h ok λh=>mU h ok λh=>?_;rw[if_neg j]at h;split at h
 ·exact ok h
 cases h
theorem K7 {u:aS} {M R:bH} {e mc f:List Value} {h0 b:Heap} {K:Value->Heap->Prop} {E:List PanicEntry->Heap->Prop} (m:cZ h0 e u) (h:qy h0 mc M) (i:sG h0 mc M) (l:h0.le b) (d:sJ u M R) (p:∀ a,b.le a->sG a f R) (g:∀ x a,b.le a->Pure prog 6 [.agg ⟨f⟩,.agg ⟨x⟩] a (.bool true)->K (.agg ⟨x⟩) a):fE prog 7 [.agg ⟨e⟩,.agg ⟨mc⟩] b K E :=
 cO (AB _ _ u M b (m.le l) (h.le l) (i.le l) R d) λv a j=>by
  obtain⟨c,s,q,rfl,o,t,f3⟩:=j;exact⟨c,g _ _ c (nT _ _ R a (p a c) (o.Ds d.JQ))⟩
set_option pp.maxSteps 900
theorem Ct {u:aS} {x:dc} {i:List Vl} {objs e:List Ob} {f g:bL} {b c:List Int} {d:Bool} (h:eF u x i objs f b=.ok (e,g,c,d)):∃ l,c=b++l:=by
 by_cases a:x.kind=24
 ·unfold eF at h;simp[a]at h;exact⟨_,h.2.2.1.symm⟩
 exact⟨[],by rw[EC h a];simp⟩
theorem ED {u:aS} {fs:List bL} {f:bL} {M M':bH} (h:ig u fs f M=.ok M'):∃ l,M'.said=M.said++l:=by
 unfold ig at h;simp only at h;split at h
 ·cases h
 split at h
 ·cases h
 split at h
 ·exact⟨[],by rw[AF h];simp⟩
 split at h
 ·cases h
 rename_i a;simp only[Except.ok.injEq]at h;rw[<-h];exact Ct a
theorem AG (u:aS) (M:bH):∃ l,(dA u M).said=M.said++l:=by
 have z:∃ l,M.said=M.said++l:=⟨[],Z⟩
 unfold dA;split
 ·exact z
 split
 ·exact z
 split
 ·rename_i M' h;exact ED (M':=M') h
 split
 ·exact z
 show ∃ l,(bU u _ M).said=M.said++l;rw[td];exact z
theorem X1 {f t:Prop} {b:Bool} (a:b=true) (k:t):@Bool.rec (λ_=>Prop) f t b:=by subst a;exact k
theorem rF {u:aS} {M:bH} (h:M.fin≠0\/200<=M.steps\/200<=M.said.length\/207<=M.objs.length):dA u M=M:=by unfold dA;rw[if_pos h]
theorem EE (v:Value) (n:Nat) (h:Heap) (E:Bytes h v n) (hn:n<=140737488355328) (hy:KV h):Pure prog 3 [v] h (.bool true):=by
 have Vm:=E;obtain⟨ad,aa,rfl,hc,_⟩:=E;refine gM aB func3 F3 U rfl ?_;conv=>whnf
 apply aD<;>intro T;all_goals conv=>whnf
 ·exact⟨rfl,Heap.le_refl h⟩
 refine aG (vE _ n h Vm O hy) ?_;rintro v0 h0 ⟨J,hA⟩;refine M7.K6 hA λpc n1 cc pm n2 cm u po co pf cf pw Q M B0 hv p z L sl=>?_;subst hv;have t:=z.read L.small;have i:=z.Ds L.small.JQ;obtain⟨R,o⟩:=EB u M;have N:=o.JQ;unfold jv aE at z t i ⊢;conv=>whnf
 refine aG (AA _ _ u M h0 p t i R o) ?_;rintro v1 h1 ⟨K,m1,B1,rfl,w,Kk,f1⟩;obtain⟨qo,do_,qf,df,qw,C,rfl⟩:=w.jv;unfold jv aE at w ⊢;conv=>whnf
 refine K7 p t i K o (λa j=>(w.aJ (cD.of_le j _)).Ds N) (λP a j x=>?_);conv=>whnf
 refine aO x ?_;conv=>whnf
 have g:=Heap.le_trans K j;have q:=Heap.le_trans J g;have m:=λh4 (l4:h1.le h4)=>(w.aJ (cD.of_le l4 _)).Ds N;refine Aw (xh _ _ u M a (p.le g) (i.le g)) (λc=>?_) (λc=>?_);all_goals conv=>whnf
 rotate_left
 ·skip
  refine K7 p t i g o (λD y=>m D (Heap.le_trans j y)) (λP D y x=>?_);conv=>whnf
  refine aO x ?_;conv=>whnf
  exact⟨rfl,Heap.le_trans J (Heap.le_trans g y)⟩
 have d:=o.1 c;have hlen:=c.2.len;have V8:=c.2.iS;have nu:=c.2.steps;apply aU<;>intro V;all_goals conv=>whnf
 ·have f:dA u M=M:=rF O;refine ax (nT _ _ M a (by have:=m a j;rw[d,f]at this;rw[d,f];exact this) (i.le g)) ?_;conv=>whnf
  exact⟨rfl,q⟩
 apply aD<;>intro W;all_goals conv=>whnf
 ·have f:dA u M=M:=rF O;refine ax (nT _ _ M a (by have:=m a j;rw[d,f]at this;rw[d,f];exact this) (i.le g)) ?_;conv=>whnf
  exact⟨rfl,q⟩
 apply aD<;>intro X;all_goals conv=>whnf
 ·have f:dA u M=M:=rF O;refine ax (nT _ _ M a (by have:=m a j;rw[d,f]at this;rw[d,f];exact this) (i.le g)) ?_;conv=>whnf
  exact⟨rfl,q⟩
 apply aD<;>intro Y;all_goals conv=>whnf
 ·have f:dA u M=M:=rF O;refine ax (nT _ _ M a (by have:=m a j;rw[d,f]at this;rw[d,f];exact this) (i.le g)) ?_;conv=>whnf
  exact⟨rfl,q⟩
 have hk:=CW c.1 c.2 (sl c.1 c.2);refine Aw (Az _ _ u R a (p.le g) (m a j)) (λB=>?_) (λB=>absurd ⟨c.1,by rw[d];exact hk.1⟩ B);conv=>whnf
 have hgr:R.steps=M.steps+1/\(R.said.length=M.said.length\/R.said.length=M.said.length+1):=by
  rw[d];rcases pO (u:=u) (M:=M)with ⟨_,b⟩|⟨S,_,s,_⟩
  ·have DJ:M.au≠[]:=by
    rcases c.2.fin with e|e|e
    ·exact e.2.1
    ·exact absurd e.1 O
    exact absurd e.1 O
   rcases b with b|b|b|b|b
   ·exact absurd b O
   ·exact absurd b O
   ·exact absurd b O
   ·exact absurd b O
   exact absurd b DJ
  exact⟨S,s⟩
 refine av ?_;conv=>whnf
 have F:decide (R.steps=M.steps+1)=true:=decide_eq_true hgr.1;generalize decide (R.steps=M.steps+1)=ab at F ⊢;subst F;conv=>whnf
 refine av ?_;generalize hN:(M.said.length:Int)+1=N1;conv=>whnf
 refine X1 (decide_eq_true O) ?_;conv=>whnf
 refine X1 (decide_eq_true O) ?_;have I:Row 1 vB a (.slice qw R.said.length C) R.said:=by
  obtain⟨vo,vf,vs,e,_,_,A⟩:=m a j;unfold aE at e;simp only[List.cons.injEq]at e;rw[e.2.2.1];exact A
 have G:R.said.length<=C:=by
  obtain⟨pp,Wz,s,G,_⟩:=I.len;simp only[Value.slice.injEq]at s;obtain⟨_,_,rfl⟩:=s;exact G
 conv=>whnf
 refine ay ?_;conv=>whnf
 have hm:Row 1 vB a (.slice pw M.said.length Q) M.said:=by
  obtain⟨vo,vf,vs,e,_,_,A⟩:=i.le g;unfold aE at e;simp only[List.cons.injEq]at e;rw[e.2.2.1];exact A
 have ht:R.said.take (M.said.length:Int).toNat=M.said:=by
  obtain⟨P,b⟩:=AG u M;rw[d,b];simp
 have H:=Ay I (k:=(M.said.length:Int).toNat) O;rw[ht]at H;refine aO (vD _ _ M.said a H hm) ?_;conv=>whnf
 exact⟨rfl,q⟩
theorem FnStepM_c (v:Value) (n:Nat) (h:Heap) (a:Bytes h v n) (d:n<=140737488355328):Pure prog 3 [v] h (.bool true):=by
 obtain⟨e,c,b,f⟩:=Au a;exact HC c (EE v n e b d f)
end Go.Proofs
