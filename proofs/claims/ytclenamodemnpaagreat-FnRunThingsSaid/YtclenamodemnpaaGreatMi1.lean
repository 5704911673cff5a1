/- Part 1 of the lemmas on which the law rests: what functions of the program and of the reference do; no conditions but those that each lemma states. -/
import Derived.Test.YtclenamodemnpaaGreatProg
import Derived.Test.YtclenamodemnpaaGreatMh1
set_option linter.unusedSimpArgs false
set_option linter.unusedVariables false
namespace Go.Proofs
open Go.Vc Go.Proofs.Tryz
def Tryz.adL:Fs:={L:=[3,4,5],LL:=[20,21,22,27,28,32,33,34,59,65,73,80,89,95],cr:=[(5,[0,1,2,3,4,5,6,7,8,9,10,11]),(6,[0,1,2,3,4,5]),(14,[0,2,6,8,1,3,4,7,9,10,5,11,12,13,14,16,21,23,15,17,18,22,24,25,19,20,26,27,28,29]),(16,[0,2,6,8,1,3,4,7,9,10,5,11,12,13])]}
theorem Tryz.ok7:aQ adL Tryz.f7 1=true:=by kernel_rfl
def Tryz.F24:Fs:={L:=[2,3,4]}
theorem Tryz.aeA:aQ F24 Tryz.f24 2=true:=by kernel_rfl
def Tryz.F25:Fs:={L:=[2,3],LL:=[50,52,64,79,81],cr:=[(7,[1,3,6,0,2,4,5,7,8,9,10,11,12,13,15,14,16,17,18,19,20,21]),(12,[1,3,6,0,2,4,5,7,8])]}
theorem Tryz.aeB:aQ F25 Tryz.f25 2=true:=by kernel_rfl
def Tryz.F51:Fs:={L:=[2]}
theorem Tryz.aeC:aQ F51 Tryz.f51 2=true:=by kernel_rfl
def Tryz.F52:Fs:={L:=[3,4],LL:=[25,27,33,36,38],cr:=[(5,[0,2,1,3,4,5,6,7,8,11,13,9,10,12,14,15,16,17,18,19])]}
theorem Tryz.aeD:aQ F52 Tryz.f52 3=true:=by kernel_rfl
def Tryz.F53:Fs:={L:=[3,4],LL:=[8,10,16,18,20,29,32,34,42,48,54],cr:=[(1,[0,2,1,3,4,5,6,7,8,10,12,9,11,13,14,15,16,17,18,19,20,21,24,26,22,23,25,27,28,29,30,31,32,33,34,35,36,37,38,39,40,42,41,43,44,45,46,48,47,49,50,51])]}
theorem Tryz.aeE:aQ F53 Tryz.f53 3=true:=by kernel_rfl
def Tryz.F55:Fs:={L:=[1]}
theorem Tryz.aeF:aQ F55 Tryz.f55 1=true:=by kernel_rfl
def Tryz.F96:Fs:={L:=[4]}
theorem Tryz.aeG:aQ F96 Tryz.f96 2=true:=by kernel_rfl
def Tryz.F97:Fs:={}
theorem Tryz.aeH:aQ F97 Tryz.f97 2=true:=by kernel_rfl
def Tryz.G23:Fs:={L:=[2,3,5],LL:=[17,18],trees:=[(5,(.one 2 (.one 0 (.alt 1 (.one 3 (.one 4 (.one 5 (.one 6 .nil)))) (.alt 3 (.one 1 (.one 4 (.one 5 (.one 6 .nil)))) .fO)))))],M:=[38]}
theorem Tryz.aev:aQ G23 Tryz.f23 1=true:=by kernel_rfl
def Tryz.G49:Fs:={L:=[2,3,4,5,47,92,100,105,126],LL:=[9,22,23,36,38,69,79,82,89,99,104,115,117,123,146,152,157,158],cr:=[(2,[1,4,0,2,3,5]),(16,[0,2,3,1,4,5,6,7,8]),(20,[0,2,3,1,4,5,6,7,8,9,10]),(8,[0,2,1,3,4,5,6,7,8,9,10])],trees:=[(4,(.one 0 (.alt 1 (.one 2 (.one 3 .nil)) (.alt 2 (.one 1 (.one 3 .nil)) .fO)))),(18,(.one 0 (.one 2 (.one 3 (.one 5 (.one 9 (.one 10 (.one 1 (.one 4 (.one 6 (.one 7 (.one 11 (.one 12 (.alt 8 (.one 13 (.one 14 (.one 15 (.one 16 (.one 17 (.one 18 .nil)))))) (.alt 13 (.one 14 (.one 8 (.one 15 (.one 16 (.one 17 (.one 18 .nil)))))) .fO))))))))))))))),(23,(.one 0 (.one 2 (.one 7 (.one 8 (.one 1 (.one 3 (.one 4 (.one 5 (.one 9 (.one 10 (.alt 6 (.one 11 (.one 12 (.one 13 (.one 14 (.one 15 (.one 16 .nil)))))) (.alt 11 (.one 12 (.one 6 (.one 13 (.one 14 (.one 15 (.one 16 .nil)))))) .fO))))))))))))),(26,(.one 0 (.one 5 (.one 6 (.one 1 (.one 2 (.one 3 (.one 7 (.one 8 (.one 9 (.alt 4 (.one 10 (.one 11 (.one 12 .nil))) (.alt 10 (.one 4 (.one 11 (.one 12 .nil))) .fO)))))))))))),(27,(.one 0 (.alt 1 (.one 2 (.one 3 .nil)) (.alt 2 (.one 1 (.one 3 .nil)) .fO))))],M:=[36,38,96]}
theorem Tryz.aew:aQ G49 Tryz.f49 1=true:=by kernel_rfl
set_option maxRecDepth 100000
set_option maxHeartbeats 4000000
theorem eE.spot {α:Type} {R:Heap->List Value->α->List Nat->Prop} (hR:Kept R) {sz:Nat} {h:Heap} {v:Value} {l:List α} {B:List Nat} (ho:eE R sz h v l B) (nd:Nd B) {k:Nat} (hk:k < l.length) :
  ∃ b c pre x post t C,v=.slice (some ⟨b,0,none⟩) l.length c/\l.length<=c/\h b=some (.cells (pre++x++post).toArray t (0,0))/\pre.length=k*sz/\x.length=sz/\R h x l[k] C/\b∈B/\b ∉ C/\(∀ y∈C,y∈B)/\Nd C /\
  ∀ h' x' a' C',x'.length=sz->h' b=some (.cells (pre++x'++post).toArray t (0,0))->R h' x' a' C'->(∀ y∈B,y≠b->y ∉ C->h' y=h y)->∃ B',eE R sz h' v (l.set k a') B':=by
 obtain⟨xs,B0,B1,⟨hx,ho⟩,hr,rfl⟩:=ho;have hlen:=hr.len;rcases ho with ⟨rfl,rfl,_⟩|⟨b,c,rest,t,rfl,gG,U,uo,rfl⟩
 ·simp at hlen;omega
 have el:l=l.take k++l[k]::l.drop (k+1):=by rw[<-List.drop_eq_getElem_cons hk,List.take_append_drop]
 have Q6:=hr;rw[el]at Q6;obtain⟨ys,zs,A,D,rfl,rfl,r1,r2⟩:=Rows.split Q6;have LG:ys.length=k:=by rw[r1.len,List.length_take];omega
 cases r2 with
 | @cons x a C zs l2 adK q1 q2 =>
 have sP:(ys++x::zs).flatten++rest=ys.flatten++x++(zs.flatten++rest):=by simp
 have xj:x.length=sz:=hx x (by simp);have hyl:ys.flatten.length=k*sz:=by rw[bQ (λy hy=>hx y (by simp[hy])),LG]
 have O6:∀ y∈C,y ∉ A/\y ∉ adK/\y≠b:=λy hy=>by
  have:=nd y;have h1:=List.count_pos_iff.2 hy;simp only[List.count_append,List.count_cons,List.count_nil]at this;refine⟨λh=>?_,λh=>?_,λh=>?_⟩
  ·have:=List.count_pos_iff.2 h;omega
  ·have:=List.count_pos_iff.2 h;omega
  ·subst h;simp at this;omega
 have ndb:∀ y,y∈A\/y∈adK->y≠b:=λy hy e=>by
  subst e;have:=nd y;simp only[List.count_append,List.count_cons,List.count_nil]at this;simp at this;rcases hy with hy|hy<;>have:=List.count_pos_iff.2 hy<;>omega
 refine⟨b,c,ys.flatten,x,zs.flatten++rest,t,C,by rw[hlen],by omega,by rw[U,sP],hyl,xj,q1,by simp,λhm=>(O6 b hm).2.2 rfl,λy hy=>by simp[hy],λy=>?_,λh' x' a' C' xY bz hR' Ef=>?_⟩
 ·have:=nd y;simp only[List.count_append]at this;omega
 ·have aeq:∀ E:List Nat,(∀ y∈E,y∈A\/y∈adK)->cC h h' E:=λE hE y hy o ho=>by
   rw[Ef y (by rcases hE y hy with h|h<;>simp[h]) (ndb y (hE y hy)) (λhc=>by rcases hE y hy with h|h;exact(O6 y hc).1 h;exact(O6 y hc).2.1 h)];exact ho
  have hl2:(x'::zs).length=(x::zs).length:=by simp
  refine⟨[b]++(A++(C'++adK)),ys++x'::zs,[b],A++(C'++adK),⟨λy hy=>?_,.inr ⟨b,c,rest,t,by simp,by simpa using gG,by rw[bz];simp,?_,rfl⟩⟩,?_,rfl⟩
  ·rcases List.mem_append.1 hy with hy|hy
   ·exact hx y (by simp[hy])
   ·rcases List.mem_cons.1 hy with rfl|hy
    ·exact xY
    ·exact hx y (by simp[hy])
  ·rw[<-uo];simp[xY,xj]
  ·have e2:l.set k a'=l.take k++a'::l.drop (k+1):=by rw[List.set_eq_take_append_cons_drop,if_pos hk]
   rw[e2];exact(r1.aG hR (aeq A λy hy=>.inl hy)).app (.cons hR' (q2.aG hR (aeq adK λy hy=>.inr hy)))
theorem cn.spot {sz:Nat} {h:Heap} {v:Value} {xs:List (List Value)} {B:List Nat} (ho:cn sz h v xs B) (hk:0 < xs.length) :
  ∃ b c post t,v=.slice (some ⟨b,0,none⟩) xs.length c/\B=[b]/\h b=some (.cells ([]++xs[0]++post).toArray t (0,0))/\xs[0].length=sz /\
  ∀ h' x',x'.length=sz->h' b=some (.cells ([]++x'++post).toArray t (0,0))->cn sz h' v (xs.set 0 x') [b]:=by
 obtain⟨hx,ho⟩:=ho;rcases ho with ⟨rfl,rfl,_⟩|⟨b,c,rest,t,rfl,gG,U,uo,rfl⟩
 ·simp at hk
 ·cases xs with
  | nil=>simp at hk
  | cons x xs =>
   have xj:x.length=sz:=hx x (by simp);refine⟨b,c,xs.flatten++rest,t,rfl,rfl,by rw[U];simp,xj,λh' x' hl bz=>⟨λy hy=>?_,.inr ⟨b,c,rest,t,by simp,by simpa using gG,by rw[bz];simp,by rw[<-uo];simp[hl,xj],rfl⟩⟩⟩;simp only[List.set_cons_zero,List.mem_cons]at hy;rcases hy with rfl|hy
   ·exact hl
   ·exact hx y (by simp[hy])
structure Sml (M:bZ):Prop where
 objs:M.objs.length<=100000
 ag:M.ag.length<=100000
 said:M.said.length<=100000
 ob:∀ o∈M.objs,o.bE.length<=100000
 fr:∀ f∈M.ag,f.locals.length<=100000/\f.stack.length<=100000
theorem Sml.small {M:bZ} (h:Sml M):Small M:=⟨by have:=h.objs;omega,by have:=h.ag;omega,by have:=h.said;omega,λo ho=>by have:=h.ob o ho;omega,λf hf=>by have:=h.fr f hf;omega⟩
theorem zC.sml {u:aU} (hT:eC u) {M:bZ} (h:zC u M):M.objs.length<=1000/\M.ag.length<=1000/\M.said.length<=1000/\(∀ o∈M.objs,o.bE.length<=1000)/\∀ f∈M.ag,f.locals.length<=1000/\f.stack.length<=1000:=by
 refine⟨by have:=h.len;omega,by have:=h.nf;omega,by have:=h.pU;omega,λo ho=>?_,λf hf=>?_⟩
 ·rcases(h.objs o ho).2 with ⟨_,h2⟩|⟨_,h2,h3⟩
  ·omega
  ·have:=fH hT.1 h2;omega
 ·have hF:=h.jy f hf;have:=(hT.br hF.1).1.2.2.2.2.1;have:=hF.2.2.1;have:=hF.2.2.2.1;omega
theorem Sml.same {M M':bZ} (h:Sml M) (h1:M'.objs=M.objs) (h2:M'.ag=M.ag) (h3:M'.said=M.said):Sml M':=⟨by rw[h1];exact h.objs,by rw[h2];exact h.ag,by rw[h3];exact h.said,by rw[h1];exact h.ob,by rw[h2];exact h.fr⟩
def Lit (M:bZ):Prop:=M.objs.length<=1000/\M.ag.length<=1000/\M.said.length<=1000/\(∀ o∈M.objs,o.bE.length<=1000)/\∀ f∈M.ag,(f.locals.length<=1000/\f.stack.length<=1000)/\0<=f.pc/\f.pc<=1000
theorem Lit.Wq {M:bZ} (h:Lit M):Sml M:=⟨by have:=h.1;omega,by have:=h.2.1;omega,by have:=h.2.2.1;omega,λo ho=>by have:=h.2.2.2.1 o ho;omega,λf hf=>by have:=h.2.2.2.2 f hf;omega⟩
theorem yJ.small {u:aU} {x:Int} {R:bZ} (h:yJ u x R):Lit R:=by
 by_cases hP:wW u x
 ·rw[h.1 hP];have hI:=Fe hP.1 x.toNat (by have:=hP.2;omega);obtain⟨a,b,c,d,e⟩:=hI.ok.sml hP.1;refine⟨a,b,c,d,λf hf=>⟨e f hf,?_⟩⟩;have hF:=hI.ok.jy f hf;have:=hF.2.1;have:=(hP.1.br hF.1).2.1.2.1;omega
 ·rw[h.2 hP];simp[Lit,mL]
def UnM (g:Heap) (v:Value):Prop:=∃ us u mc M B,v=.tuple #[.agg ⟨us⟩,.agg ⟨mc⟩]/\dL g us u/\gJ g mc M B/\Sml M
def adP (g2:Heap) (bb:Nat) (g:Heap) (mc:List Value):Prop:=g2.le g/\g bb=none/\∃ M B,gJ g mc M B/\Sml M
theorem adP.fin {g g2 g9:Heap} {bb:Nat} {vb:Value} {p q:Int} {us mc:List Value} {u:aU} (h:adP g2 bb g9 mc) (hg:g.le g2) (hu:dL g2 us u) (h1:p<=q) (h2:q<=p+12000):∃ g' q',cN g9 bb vb q=cN g' bb vb q'/\g.le g'/\g' bb=none/\p<=q'/\q'<=p+12000/\UnM g' (.tuple #[.agg ⟨us⟩,.agg ⟨mc⟩]):=by
 obtain⟨l,f,M,B,o,s⟩:=h;exact⟨_,_,rfl,Heap.le_trans hg l,f,h1,h2,us,u,mc,M,B,rfl,hu.le l,o,s⟩
structure adN (g2 g3:Heap) (bb:Nat) (R:bZ) (po:Option Addr) (co:Nat) (pf:Option Addr) (cf:Nat) (pw:Option Addr) (cw:Nat) (B1 B2 B3:List Nat):Prop where
 l3:g2.le g3
 free:g3 bb=none
 o1:eE lu 2 g3 (.slice po R.objs.length co) R.objs B1
 o2:eE oY 4 g3 (.slice pf R.ag.length cf) R.ag B2
 o3:dV g3 (.slice pw R.said.length cw) R.said B3
 nd:Nd (B1++B2++B3)
 fr:∀ b∈B1++B2++B3,g2 b=none
 lit:Lit R
section
variable {g2 g3:Heap} {bb:Nat} {R:bZ} {po pf pw:Option Addr} {co cf cw:Nat} {B1 B2 B3:List Nat}
theorem adN.sep (m:adN g2 g3 bb R po co pf cf pw cw B1 B2 B3):(∀ y∈B1,y ∉ B2/\y ∉ B3)/\(∀ y∈B2,y ∉ B1/\y ∉ B3)/\∀ y∈B3,y ∉ B1/\y ∉ B2:=by
 refine⟨λy hy=>?_,λy hy=>?_,λy hy=>?_⟩;all_goals
  have:=m.nd y;have h1:=List.count_pos_iff.2 hy;simp only[List.count_append]at this;exact⟨λh=>by have:=List.count_pos_iff.2 h;omega,λh=>by have:=List.count_pos_iff.2 h;omega⟩
theorem adN.nd1 (m:adN g2 g3 bb R po co pf cf pw cw B1 B2 B3):Nd B1:=λa=>by have:=m.nd a;simp only[List.count_append]at this;omega
theorem adN.nd2 (m:adN g2 g3 bb R po co pf cf pw cw B1 B2 B3):Nd B2:=λa=>by have:=m.nd a;simp only[List.count_append]at this;omega
theorem adN.i1 (m:adN g2 g3 bb R po co pf cf pw cw B1 B2 B3):∀ b∈B1,g2 b=none/\∃ o,g3 b=some o:=λb U=>⟨m.fr b (by simp[U]),m.o1.in xX b U⟩
theorem adN.i2 (m:adN g2 g3 bb R po co pf cf pw cw B1 B2 B3):∀ b∈B2,g2 b=none/\∃ o,g3 b=some o:=λb U=>⟨m.fr b (by simp[U]),m.o2.in VT b U⟩
theorem adN.i3 (m:adN g2 g3 bb R po co pf cf pw cw B1 B2 B3):∀ b∈B3,g2 b=none/\∃ o,g3 b=some o:=λb U=>⟨m.fr b (by simp[U]),m.o3.in b U⟩
theorem keq {g3 g9:Heap} {A:List Nat} (hA:∀ y∈A,g9 y=g3 y):cC g3 g9 A:=λy hy o ho=>by rw[hA y hy];exact ho
abbrev mcl (R:bZ) (po:Option Addr) (co:Nat) (pf:Option Addr) (cf:Nat) (vs:Value) (st fi:Int) (o:Vl):List Value:=[.slice po R.objs.length co,.slice pf R.ag.length cf,vs,.int .i64 st,.int .i64 fi,.bool o.ref,.int .i64 o.n]
theorem adN.same (m:adN g2 g3 bb R po co pf cf pw cw B1 B2 B3) (st fi:Int) (o:Vl):adP g2 bb g3 (mcl R po co pf cf (.slice pw R.said.length cw) st fi o) :=
 ⟨m.l3,m.free,{R with steps:=st,fin:=fi,out:=o},_,⟨_,_,_,B1,B2,B3,rfl,m.o1,m.o2,m.o3,rfl⟩,m.lit.Wq.same rfl rfl rfl⟩
theorem adN.obj {K:Prop} (m:adN g2 g3 bb R po co pf cf pw cw B1 B2 B3) {k:Nat} (hk:k < R.objs.length)
  (hK:∀(b:Nat) (c:Int) (pv:Option Addr) (cv:Nat) (pre post:List Value) (t:TypeId) (C:List Nat) (l:List Vl),po=some ⟨b,0,none⟩->g3 b=some (.cells (pre++[Value.int .i64 c,.slice pv (l.map bR).length cv]++post).toArray t (0,0))->pre.length=k*2->cq g3 (.slice pv (l.map bR).length cv) l C->(∀ z∈C,g2 z=none)->b ∉ C->l.length<=1000 ->
   (∀(g5:Heap) (c':Int) (v:Value) (l':List Vl) (C':List Nat),g2.le g5->g5 bb=none->cq g5 v l' C'->l'.length<=1001->(∀ z,z ∉ C->g3 z≠none->g5 z=g3 z)->(∀ z∈C',z∈C\/g3 z=none) ->
    g5 b=some (.cells (pre++[Value.int .i64 c,.slice pv (l.map bR).length cv]++post).toArray t (0,0))/\adP g2 bb (g5.set b (.cells (pre++[Value.int .i64 c',v]++post).toArray t (0,0))) (mcl R po co pf cf (.slice pw R.said.length cw) R.steps R.fin R.out))->K):K:=by
 obtain⟨b,c,pre,w0,post,t,C,hv,hc,U,fV,xj,hR,O3,hbC,hCB,ndC,put⟩:=m.o1.spot jD m.nd1 hk;simp only[Value.slice.injEq]at hv;obtain⟨rfl,_,rfl⟩:=hv;obtain⟨w,rfl,ow⟩:=hR;obtain⟨pv,cv,rfl,Ou⟩:=cn.form ow;obtain⟨s1,s2,s3⟩:=m.sep;refine hK b _ pv cv pre post t C _ rfl U fV ow (λz hz=>(m.i1 z (hCB z hz)).1) hbC (m.lit.2.2.2.1 _ (List.getElem_mem hk)) λg5 c' v l' C' l5 f5 ow5 rM k5 k6=>?_;have qw:g5 b=g3 b:=k5 b hbC (by rw[U];simp);refine⟨by rw[qw];exact U,?_⟩;obtain⟨g9,hg9⟩:∃ g9,g9=g5.set b (.cells (pre++[Value.int .i64 c',v]++post).toArray t (0,0)):=⟨_,rfl⟩
 rw[<-hg9];have e9:∀ z,z≠b->g9 z=g5 z:=λz hz=>by rw[hg9];simp[Heap.set,hz]
 have cD:bb≠b:=by rintro rfl;rw[qw,U]at f5;cases f5
 have le9:g2.le g9:=by rw[hg9];exact Heap.aM l5 (m.i1 b O3).1
 have nbB:∀ z∈C',z≠b:=λz hz e=>by
  rcases k6 z hz with h|h
  ·exact hbC (e ▸ h)
  ·rw[e,U]at h;cases h
 have LI:∀ z,z≠b->z ∉ C->(∃ o,g3 z=some o)->g9 z=g3 z:=λz h1 h2 ⟨o,h3⟩=>by rw[e9 z h1,k5 z h2 (by rw[h3];simp)]
 obtain⟨jf,o1'⟩:=put g9 [.int .i64 c',v] ⟨c',l'⟩ C' rfl (by rw[hg9];exact cZ _ _ _) ⟨_,rfl,ow5.aG λz hz o ho=>by rw[e9 z (nbB z hz)];exact ho⟩ (λz hz h1 h2=>LI z h1 h2 (m.i1 z hz).2);refine⟨le9,by rw[e9 bb cD];exact f5,{R with objs:=R.objs.set k ⟨c',l'⟩},_,⟨_,_,_,jf,B2,B3,by simp,o1',m.o2.aG qz (keq λz hz=>LI z (λe=>(s2 z hz).1 (e ▸ O3)) (λe=>(s2 z hz).1 (hCB z e)) (m.i2 z hz).2),m.o3.aG (keq λz hz=>LI z (λe=>(s3 z hz).1 (e ▸ O3)) (λe=>(s3 z hz).1 (hCB z e)) (m.i3 z hz).2),rfl⟩,?_⟩;have hs:=m.lit;refine⟨by have:=hs.1;simp;omega,hs.Wq.ag,hs.Wq.said,λo ho=>?_,hs.Wq.fr⟩;rcases List.mem_or_eq_of_mem_set ho with h|rfl
 ·exact hs.Wq.ob o h
 ·simp only;omega
theorem adN.say (m:adN g2 g3 bb R po co pf cf pw cw B1 B2 B3) {g5:Heap} {v:Value} {l:List Int} {B:List Nat} (l5:g2.le g5) (f5:g5 bb=none) (o:dV g5 v l B) (hl:l.length<=1001) (k5:∀ z,z ∉ B3->g3 z≠none->g5 z=g3 z):adP g2 bb g5 (mcl R po co pf cf v R.steps R.fin R.out):=by
 obtain⟨s1,s2,s3⟩:=m.sep;have LI:∀ z,z ∉ B3->(∃ o,g3 z=some o)->g5 z=g3 z:=λz h2 ⟨o,h3⟩=>k5 z h2 (by rw[h3];simp);exact⟨l5,f5,{R with said:=l},_,⟨_,_,_,B1,B2,B,rfl,m.o1.aG jD (keq λz hz=>LI z (s1 z hz).2 (m.i1 z hz).2),m.o2.aG qz (keq λz hz=>LI z (s2 z hz).2 (m.i2 z hz).2),o,rfl⟩,⟨m.lit.Wq.objs,m.lit.Wq.ag,by simp only;omega,m.lit.Wq.ob,m.lit.Wq.fr⟩⟩
theorem adN.jy {K:Prop} (m:adN g2 g3 bb R po co pf cf pw cw B1 B2 B3) (hk:0 < R.ag.length)
  (hK:∀(b:Nat) (mt pc:Int) (v1:Value) (pv:Option Addr) (cv:Nat) (post:List Value) (t:TypeId) (C1 C2:List Nat) (l1 l2:List Vl),pf=some ⟨b,0,none⟩->g3 b=some (.cells ([]++[Value.int .i64 mt,.int .i64 pc,v1,.slice pv (l2.map bR).length cv]++post).toArray t (0,0))->cq g3 v1 l1 C1->cq g3 (.slice pv (l2.map bR).length cv) l2 C2->(∀ z∈C1++C2,g2 z=none)->b ∉ C1++C2->Nd (C1++C2)->l1.length<=1000->l2.length<=1000->(0<=pc/\pc<=1000) ->
   (∀(g9:Heap) (Jt:Int) (w1 w2:Value) (l1' l2':List Vl) (C1' C2':List Nat),g2.le g9->g9 bb=none->g9 b=some (.cells ([]++[Value.int .i64 mt,.int .i64 Jt,w1,w2]++post).toArray t (0,0))->cq g9 w1 l1' C1'->cq g9 w2 l2' C2'->l1'.length<=1001->l2'.length<=1001->(∀ z,z≠b->z ∉ C1++C2->g3 z≠none->g9 z=g3 z) ->
    adP g2 bb g9 (mcl R po co pf cf (.slice pw R.said.length cw) R.steps R.fin R.out))->K):K:=by
 obtain⟨b,c,pre,w0,post,t,C,hv,hc,U,fV,xj,hR,O3,hbC,hCB,ndC,put⟩:=m.o2.spot qz m.nd2 hk;simp only[Value.slice.injEq]at hv;obtain⟨rfl,_,rfl⟩:=hv;obtain⟨w1,w2,C1,C2,rfl,ow1,ow2,rfl⟩:=hR;obtain⟨pv,cv,rfl,Ou⟩:=cn.form ow2;obtain⟨s1,s2,s3⟩:=m.sep;obtain rfl:pre=[]:=List.eq_nil_of_length_eq_zero (by omega);have hs:=m.lit;have lf:=hs.2.2.2.2 _ (List.getElem_mem hk);refine hK b _ _ w1 pv cv post t C1 C2 _ _ rfl U ow1 ow2 (λz hz=>(m.i2 z (hCB z hz)).1) hbC ndC lf.1.1 lf.1.2 lf.2 λg9 Jt w1 w2 l1' l2' C1' C2' l9 f9 h9 o1' o2' n1 n2 k9=>?_;have LI:∀ z,z≠b->z ∉ C1++C2->(∃ o,g3 z=some o)->g9 z=g3 z:=λz h1 h2 ⟨o,h3⟩=>k9 z h1 h2 (by rw[h3];simp);obtain⟨gO,o2'⟩:=put g9 [.int .i64 R.ag[0].ah,.int .i64 Jt,w1,w2] ⟨R.ag[0].ah,Jt,l1',l2'⟩ (C1'++C2') rfl h9 ⟨w1,w2,C1',C2',rfl,o1',o2',rfl⟩ (λz hz h1 h2=>LI z h1 h2 (m.i2 z hz).2);refine⟨l9,f9,{R with ag:=R.ag.set 0 ⟨R.ag[0].ah,Jt,l1',l2'⟩},_,⟨_,_,_,B1,gO,B3,by simp,m.o1.aG jD (keq λz hz=>LI z (λe=>(s1 z hz).1 (e ▸ O3)) (λe=>(s1 z hz).1 (hCB z e)) (m.i1 z hz).2),o2',m.o3.aG (keq λz hz=>LI z (λe=>(s3 z hz).2 (e ▸ O3)) (λe=>(s3 z hz).2 (hCB z e)) (m.i3 z hz).2),rfl⟩,?_⟩;refine⟨hs.Wq.objs,by have:=hs.2.1;simp;omega,hs.Wq.said,hs.Wq.ob,λo ho=>?_⟩;rcases List.mem_or_eq_of_mem_set ho with h|rfl
 ·exact hs.Wq.fr o h
 ·simp only;omega
theorem adN.frf (m:adN g2 g3 bb R po co pf cf pw cw B1 B2 B3) (hk:0 < R.ag.length) {b:Nat} (Io:pf=some ⟨b,0,none⟩):g2 b=none:=by
 obtain⟨b',_,_,_,_,_,_,hv,_,_,_,_,_,hB',_⟩:=m.o2.spot qz m.nd2 hk;rw[Io]at hv;simp only[Value.slice.injEq,Option.some.injEq,Addr.mk.injEq,and_true]at hv;rw[hv.1];exact(m.i2 _ hB').1
theorem aes {K:Prop} {vb:Value} {b:Nat} {mt pc:Int} {pv1 pv:Option Addr} {cv1 cv:Nat} {post:List Value} {t:TypeId} {C1 C2:List Nat} {la lb:List Vl} (m:adN g2 g3 bb R po co pf cf pw cw B1 B2 B3) (zB:0 < la.length)
  (U:g3 b=some (.cells ([]++[Value.int .i64 mt,.int .i64 pc,.slice pv1 (la.map bR).length cv1,.slice pv (lb.map bR).length cv]++post).toArray t (0,0))) (ow1:cq g3 (.slice pv1 (la.map bR).length cv1) la C1) (ow2:cq g3 (.slice pv (lb.map bR).length cv) lb C2) (hC:∀ z∈C1++C2,g2 z=none) (hbC:b ∉ C1++C2) (ndC:Nd (C1++C2)) (ha:la.length<=1000) (eX:lb.length<=1000)
  (put:∀(g9:Heap) (Jt:Int) (w1 w2:Value) (l1' l2':List Vl) (C1' C2':List Nat),g2.le g9->g9 bb=none->g9 b=some (.cells ([]++[Value.int .i64 mt,.int .i64 Jt,w1,w2]++post).toArray t (0,0))->cq g9 w1 l1' C1'->cq g9 w2 l2' C2'->l1'.length<=1001->l2'.length<=1001->(∀ z,z≠b->z ∉ C1++C2->g3 z≠none->g9 z=g3 z)->adP g2 bb g9 (mcl R po co pf cf (.slice pw R.said.length cw) R.steps R.fin R.out))
  (hK:∀(b1:Nat) (X6:List Value) (t1:TypeId),pv1=some ⟨b1,0,none⟩->g3 b1=some (.cells ([]++bR la[0]++X6).toArray t1 (0,0))->(∀ y,adP g2 bb (g3.set b1 (.cells ([]++bR y++X6).toArray t1 (0,0))) (mcl R po co pf cf (.slice pw R.said.length cw) R.steps R.fin R.out))->K):K:=by
 obtain⟨b1,c9,X6,t1,hv1,rfl,gI,aeK,HL⟩:=ow1.spot (by simpa using zB);simp only[Value.slice.injEq]at hv1;obtain⟨rfl,_,rfl⟩:=hv1;have aeI:b≠b1:=λe=>hbC (by simp[e]);have n12:b1 ∉ C2:=λh=>by
  have:=ndC b1;have h2:=List.count_pos_iff.2 h;simp only[List.count_append,List.count_cons,List.count_nil,beq_self_eq_true,if_true]at this;omega
 refine hK b1 X6 t1 rfl (by simpa using gI) λy=>?_;have e9:∀ z,z≠b1->(g3.set b1 (.cells ([]++bR y++X6).toArray t1 (0,0))) z=g3 z:=λz hz=>by simp[Heap.set,hz]
 have cD:bb≠b1:=by rintro rfl;have:=m.free;rw[gI]at this;cases this
 have aex:=HL (g3.set b1 (.cells ([]++bR y++X6).toArray t1 (0,0))) (bR y) rfl (cZ _ _ _);rw[<-List.map_set]at aex;exact put _ pc _ _ (la.set 0 y) lb [b1] C2 (Heap.aM m.l3 (hC b1 (by simp))) (by rw[e9 bb cD];exact m.free) (by rw[e9 b aeI];exact U) aex (ow2.aG (keq λz hz=>e9 z λe=>n12 (e ▸ hz))) (by simp;omega) (by omega) λz h1 h2 _=>e9 z λe=>h2 (by simp[e])
end
theorem ad7 {g2 g3:Heap} {bb:Nat} {vb:Value} {q0 q:Int} {pv:Option Addr} {cv:Nat} {l:List Vl} {C:List Nat} {y:Vl} {el:TypeId} {K:Value->Heap->Prop} (r2:bD g2 bb vb q0) (rq:bD g3 bb vb q) (l3:g2.le g3) (ow:cq g3 (.slice pv (l.map bR).length cv) l C) (fr:∀ z∈C,g2 z=none) (hl:l.length<=1000)
  (hK:∀ p' c' g5 B',g2.le g5->bD g5 bb vb q->cq g5 (.slice p' (l++[y]).length c') (l++[y]) B'->(∀ b,b ∉ C->g3 b≠none->g5 b=g3 b)->(∀ b∈B',b∈C\/g3 b=none)->K (.slice p' (l++[y]).length c') (cN g5 bb vb q)):App 16 2 [.bool false,.int .i64 0] el (cN g3 bb vb q) pv (l.map bR).length cv 1 (bR y) K :=
 pK (ys:=[bR y]) r2 rq ow fr l3 (by simp) rfl (by simp[bR]) rfl rfl (by simp;omega) (by simp;omega) λv' g5 B' k1 k2 k3 k4 k5 k6=>by
  have HQ:cq g5 v' (l++[y]) B':=by simpa [cq]using k3
  obtain⟨p',c',rfl,_⟩:=cn.form HQ;rw[List.length_map]at HQ ⊢;exact hK p' c' g5 B' k1 k2 HQ k5 k6
theorem aei {g:Heap} {bb:Nat} {vb:Value} {p:Int} (n:Int) (r:bD g bb vb p) (hp:p<=90000000) (hn:0<=n/\n<=100000) :
  Dr prog 96 [.pointer (some ⟨bb,0,none⟩),.int .i64 n] g bb vb p 3 λg' v=>g'=g/\∃ x:Vl,v=.agg ⟨bR x⟩:=by
 refine bS au func96 F96 aeG rfl ?_;conv=>whnf
 refine bF r (by omega) (λx x0 x1 x2 r1=>?_);conv=>whnf
 apply ax<;>intro _;all_goals conv=>whnf
 ·refine iC r1 (HP r1 (by omega)) (λv g2 q l2 r2 q0 q1 hA=>?_);obtain⟨rfl,y,rfl,_,_⟩:=hA;conv=>whnf
  exact⟨_,_,rfl,Heap.le_refl _,r2.free,by omega,by omega,rfl,⟨false,y⟩,rfl⟩
 ·refine aj ?_;conv=>whnf
  refine bF r1 (by omega) (λy y0 y1 y2 r2=>?_);conv=>whnf
  exact⟨_,_,rfl,Heap.le_refl _,r2.free,by omega,by omega,rfl,⟨true,y⟩,rfl⟩
theorem aeg {g:Heap} {bb:Nat} {vb:Value} {p:Int} (r:bD g bb vb p) (hp:p<=20000000) (hB:Pa g) :
  Dr prog 49 [.pointer (some ⟨bb,0,none⟩)] g bb vb p 12000 UnM:=by
 refine bS au func49 G49 aew rfl ?_;conv=>whnf
 refine iC r (Ia r (by omega) hB) (λv g1 q1 l1 r1 YT YU hA=>?_);refine Ls.elim hA λp1 n1 c1 p2 n2 c2 u hv hu=>?_;subst hv;conv=>whnf
 refine iC r1 (zg r1 (by omega)) (λv g2 q2 l2 r2 q20 q21 hA=>?_);obtain⟨rfl,x,rfl,x0,x1⟩:=hA;obtain⟨R,xo⟩:=Dt u x;conv=>whnf
 refine O2 r2 (R:=λv g'=>∃ mc B,v=.agg ⟨mc⟩/\gJ g' mc R B/\Nd B/\∀ b∈B,g2 b=none) (mM _ u x g2 hu R xo) (λv g3 l3 r3 hh=>?_);obtain⟨mc,B,rfl,own,nd,fr⟩:=hh;obtain⟨po,co,pf,cf,pw,cw,rfl⟩:=own.kr;unfold kr aB at own ⊢;obtain⟨vo,vf,vs,B1,B2,B3,e,o1,o2,o3,rfl⟩:=own;simp only[List.cons.injEq,and_true]at e;obtain⟨rfl,rfl,rfl⟩:=e;have m:adN g2 g3 bb R po co pf cf pw cw B1 B2 B3:=⟨l3,r3.free,o1,o2,o3,nd,fr,xo.small⟩
 have u0:=m.lit.1;clear nd fr hA;conv=>whnf
 refine bF r3 (by omega) (λy y0 y1 y2 r4=>?_);clear y1 y2;conv=>whnf
 repeat' ((first|apply And.intro|exact trivial|apply ax<;>intro _|apply aV<;>intro _|exact(m.same R.steps R.fin R.out).fin l1 hu (by omega) (by omega))<;>conv=>whnf)
 refine bF r4 (by omega) (λk k0 k1 k2 r5=>?_);have OT:k.toNat < R.objs.length:=by omega
 conv=>whnf
 refine bF r5 (by omega) (λz z0 z1 z2 r6=>?_);have hz:z=0\/z=1\/z=2\/z=3\/z=4\/z=5\/z=6\/z=7\/z=8:=by omega
 clear k1 k2 z0 z1 z2;have dv:∀(n:Int) (K:Value->Heap->Prop) (E:List PanicEntry->Heap->Prop),0<=n/\n<=100000->(∀ y q4,bD g3 bb vb q4->q2<=q4->q4<=q2+10->K (.agg #[.bool (Vl.ref y),.int .i64 (Vl.n y)]) (cN g3 bb vb q4))->Go.Vc.Call prog 96 [.pointer (some ⟨bb,0,none⟩),.int .i64 n] (cN g3 bb vb (q2+1+1+1)) K E:=λn K E hn hK =>
  iC r6 (aei n r6 (by omega) hn) λv g4 q4 l4 r7 XI XJ hA=>by
   obtain⟨rfl,y,rfl⟩:=hA;exact hK y q4 r7 (by omega) (by omega)
 rcases hz with rfl|rfl|rfl|rfl|rfl|rfl|rfl|rfl|rfl
 ·conv=>whnf
  refine bF r6 (by omega) (λy y0 y1 y2 r7=>?_);rcases(show y=0\/y=1\/y=2 by omega)with rfl|rfl|rfl;all_goals
   conv=>whnf
   repeat' ((first|refine aq ?_|apply And.intro|exact trivial)<;>conv=>whnf)
   all_goals exact(m.same _ R.fin R.out).fin l1 hu (by omega) (by omega)
 ·conv=>whnf
  refine bF r6 (by omega) (λy y0 y1 y2 r7=>?_);conv=>whnf
  repeat' ((first|apply And.intro|exact trivial)<;>conv=>whnf)
  all_goals exact(m.same R.steps _ R.out).fin l1 hu (by omega) (by omega)
 ·conv=>whnf
  refine dv _ _ _ (by omega) (λy q4 r7 XI XJ=>?_);conv=>whnf
  repeat' ((first|refine aq ?_|apply And.intro|exact trivial)<;>conv=>whnf)
  all_goals exact(m.same R.steps R.fin y).fin l1 hu (by omega) (by omega)
 ·refine m.obj OT λb c pv cv pre post t C l hpo U fV ow hC hbC hl put=>?_;conv=>whnf
  refine bF r6 (by omega) (λy y0 y1 y2 r7=>?_);have hP:=(put g3 (y-3) _ l C m.l3 m.free ow (by omega) (λ_ _ _=>rfl) (λz hz=>.inl hz)).2;conv=>whnf
  repeat' ((first|apply And.intro|exact trivial|refine aq ?_|refine aj ?_|refine aO hpo ?_|refine mQ r7.free U (by simp only[List.length_append,List.length_cons,List.length_nil];omega) (nu (i:=0) (by show 0+k.toNat*2+0=_;omega) (by simp)) ?_)<;>conv=>whnf)
  all_goals exact hP.fin l1 hu (by omega) (by omega)
 ·refine m.obj OT λb c pv cv pre post t C l hpo U fV ow hC hbC hl put=>?_;have rv:∀ n,n=0+k.toNat*2+1->rd g3 b n=some _:=λn hn=>bG U (i:=1) (by omega) rfl;conv=>whnf
  repeat' ((first|apply And.intro|exact trivial|refine aq ?_|refine aj ?_|refine aO hpo ?_|refine ld (aX (bh r6.free) (rv _ rfl)) ?_|refine dv _ _ _ (by omega) (λy q4 r7 XI XJ=>?_)|(refine ad7 (y:=y) r2 r7 m.l3 ow hC hl (λp' c' g5 B' k1 k2 k3 k5 k6=>?_);have hP:=put g5 c _ _ B' k1 k2.free k3 (by simp;omega) k5 k6)|refine mQ k2.free hP.1 (by simp only[List.length_append,List.length_cons,List.length_nil];omega) (nu (i:=1) (by show 0+k.toNat*2+1=_;omega) (by simp)) ?_)<;>conv=>whnf)
  all_goals exact hP.2.fin l1 hu (by omega) (by omega)
 ·conv=>whnf
  refine bF r6 (by omega) (λy y0 y1 y2 r7=>?_);rcases(show y=0\/y=1 by omega)with rfl|rfl;all_goals
   conv=>whnf
   repeat' ((first|apply And.intro|exact trivial|refine aq ?_|refine xq (k:=[_]) r2 r7 m.o3 (λz hz=>(m.i3 z hz).1) m.l3 rfl (by have:=m.lit.2.2.1;simp;omega) (λp' c' g5 B' k1 k2 k3 _ ev=>?_))<;>conv=>whnf)
   all_goals exact(m.say k1 k2.free k3 (by have:=m.lit.2.2.1;simp;omega) λz h1 h2=>ev.ic z h2 h1).fin l1 hu (by omega) (by omega)
 ·by_cases RQ:0 < R.ag.length
  ·refine m.jy RQ λb mt pc v1 pv cv post t C1 C2 la lb Io U ow1 ow2 hC hbC ndC ha eX D0 put=>?_;have r1:rd g3 b 3=some _:=bG U (i:=3) rfl rfl;have aeJ:∀ y p' c' g5 B',g2.le g5->bD g5 bb vb 0->cq g5 (.slice p' (lb++[y]).length c') (lb++[y]) B'->(∀ b,b ∉ C2->g3 b≠none->g5 b=g3 b)->(∀ b∈B',b∈C2\/g3 b=none)->g5 b=g3 b/\adP g2 bb (g5.set b (.cells ([]++[Value.int .i64 mt,.int .i64 pc,v1,.slice p' (lb++[y]).length c']++post).toArray t (0,0))) (mcl R po co pf cf (.slice pw R.said.length cw) R.steps R.fin R.out):=by
    intro y p' c' g5 B' k1 k2 k3 k5 k6;have aey:b ∉ C2:=λh=>hbC (by simp[h]);have qw:g5 b=g3 b:=k5 b aey (by rw[U];simp);have gA:g2 b=none:=m.frf RQ Io;have e9:∀ z,z≠b->(g5.set b (.cells ([]++[Value.int .i64 mt,.int .i64 pc,v1,.slice p' (lb++[y]).length c']++post).toArray t (0,0))) z=g5 z:=λz hz=>by simp[Heap.set,hz]
    have cD:bb≠b:=by rintro rfl;have:=k2.free;rw[qw,U]at this;cases this
    have nbB:∀ z∈B',z≠b:=λz hz e=>by
     rcases k6 z hz with h|h
     ·exact aey (e ▸ h)
     ·rw[e,U]at h;cases h
    refine⟨qw,put _ pc _ _ la _ C1 B' (Heap.aM k1 gA) (by rw[e9 bb cD];exact k2.free) (cZ _ _ _) (ow1.aG (keq λz hz=>?_)) (k3.aG λz hz o ho=>by rw[e9 z (nbB z hz)];exact ho) (by omega) (by simp;omega) λz h1 h2 h3=>by rw[e9 z h1,k5 z (λh=>h2 (by simp[h])) h3]⟩;have h1:z≠b:=λe=>hbC (by rw[<-e];simp[hz]);rw[e9 z h1,k5 z (λh=>?_) (by obtain⟨o,ho⟩:=ow1.in z hz;rw[ho];simp)];have:=ndC z;have h1:=List.count_pos_iff.2 hz;have h2:=List.count_pos_iff.2 h;simp only[List.count_append]at this;omega
   have hC2:∀ z∈C2,g2 z=none:=λz hz=>hC z (by simp[hz]);conv=>whnf
   refine b8 ?_;conv=>whnf
   repeat' ((first|apply And.intro|exact trivial|refine aq ?_|refine aO Io ?_|refine ld (aX (bh r6.free) r1) ?_|refine dv _ _ _ (by omega) (λy q4 r7 XI XJ=>?_)|(refine ad7 (y:=y) r2 r7 m.l3 ow2 hC2 eX (λp' c' g5 B' k1 k2 k3 k5 k6=>?_);have hP:=aeJ y p' c' g5 B' k1 ⟨k2.free,k2.bytes,by omega⟩ k3 k5 k6)|refine mQ k2.free (hP.1.trans U) (by simp only[List.length_append,List.length_cons,List.length_nil];omega) (nu (i:=3) rfl (by simp)) ?_)<;>conv=>whnf)
   all_goals exact hP.2.fin l1 hu (by omega) (by omega)
  ·conv=>whnf
   repeat' ((first|apply And.intro|exact trivial|refine bL ?_|exact(m.same R.steps R.fin R.out).fin l1 hu (by omega) (by omega))<;>conv=>whnf)
 ·by_cases RQ:0 < R.ag.length
  ·refine m.jy RQ λb mt pc v1 pv cv post t C1 C2 la lb Io U ow1 ow2 hC hbC ndC ha eX D0 put=>?_;obtain⟨pv1,cv1,rfl,_⟩:=cn.form ow1;have r1:rd g3 b 2=some _:=bG U (i:=2) rfl rfl;by_cases zB:0 < la.length
   ·refine aes (vb:=vb) (mt:=mt) (pc:=pc) m zB U ow1 ow2 hC hbC ndC ha eX put λb1 X6 t1 zD gI hF=>?_;conv=>whnf
    refine b8 ?_;conv=>whnf
    repeat' ((first|apply And.intro|exact trivial|refine ob (by first|omega|(simp only[List.length_map];omega)) ?_|refine aO Io ?_|refine aO zD ?_|refine aj ?_|refine ld (aX (bh r6.free) r1) ?_|refine fX (by simp only[List.length_map];omega) ?_|refine dv _ _ _ (by omega) (λy q4 r7 XI XJ=>?_)|refine mQ r7.free gI (by simp[bR]) (BO (pre:=[]) (y:=bR y) rfl rfl) ?_)<;>conv=>whnf)
    all_goals exact(hF y).fin l1 hu (by omega) (by omega)
   ·conv=>whnf
    refine b8 ?_;conv=>whnf
    repeat' ((first|apply And.intro|exact trivial|refine ob (by first|omega|(simp only[List.length_map];omega)) ?_|refine aO Io ?_|refine ld (aX (bh r6.free) r1) ?_|refine cy (by simp only[List.length_map];omega) ?_|exact(m.same R.steps R.fin R.out).fin l1 hu (by omega) (by omega))<;>conv=>whnf)
  ·conv=>whnf
   repeat' ((first|apply And.intro|exact trivial|refine bL ?_|exact(m.same R.steps R.fin R.out).fin l1 hu (by omega) (by omega))<;>conv=>whnf)
 ·by_cases RQ:0 < R.ag.length
  ·refine m.jy RQ λb mt pc v1 pv cv post t C1 C2 la lb Io U ow1 ow2 hC hbC ndC ha eX D0 put=>?_;have r1:rd g3 b 1=some _:=bG U (i:=1) rfl rfl;have cD:bb≠b:=by rintro rfl;have:=r6.free;rw[U]at this;cases this
   have e9:∀ z,z≠b->(g3.set b (.cells ([]++[Value.int .i64 mt,.int .i64 (pc+1),v1,.slice pv (lb.map bR).length cv]++post).toArray t (0,0))) z=g3 z:=λz hz=>by simp[Heap.set,hz]
   have hP:=put (g3.set b (.cells ([]++[Value.int .i64 mt,.int .i64 (pc+1),v1,.slice pv (lb.map bR).length cv]++post).toArray t (0,0))) (pc+1) v1 _ la lb C1 C2 (Heap.aM m.l3 (m.frf RQ Io)) (by rw[e9 bb cD];exact m.free) (cZ _ _ _) (ow1.aG (keq λz hz=>e9 z λe=>hbC (by rw[<-e];simp[hz]))) (ow2.aG (keq λz hz=>e9 z λe=>hbC (by rw[<-e];simp[hz]))) (by omega) (by omega) λz h1 _ _=>e9 z h1;conv=>whnf
   refine b8 ?_;conv=>whnf
   repeat' ((first|apply And.intro|exact trivial|refine aq ?_|refine aO Io ?_|refine aj ?_|refine ld (aX (bh r6.free) r1) ?_|refine mQ r6.free U (by simp only[List.length_append,List.length_cons,List.length_nil];omega) (nu (i:=1) rfl (by simp)) ?_)<;>conv=>whnf)
   all_goals exact hP.fin l1 hu (by omega) (by omega)
  ·conv=>whnf
   repeat' ((first|apply And.intro|exact trivial|refine bL ?_|exact(m.same R.steps R.fin R.out).fin l1 hu (by omega) (by omega))<;>conv=>whnf)
theorem UnM.elim {g:Heap} {v:Value} {K:Prop} (h:UnM g v) (hk:∀ p n c q m d u po co pf cf pw cw M B,v=.tuple #[.agg #[.slice p n c,.slice q m d],.agg ⟨kr po co pf cf pw cw M⟩]->dL g [.slice p n c,.slice q m d] u->gJ g (kr po co pf cf pw cw M) M B->Sml M->K):K:=by
 obtain⟨us,u,mc,M,B,rfl,h,o,s⟩:=h;obtain⟨cp,cc,q,d,rfl,_⟩:=h.form;obtain⟨po,co,pf,cf,pw,cw,rfl⟩:=o.kr;exact hk _ _ _ _ _ _ _ _ _ _ _ _ _ _ _ rfl h o s
theorem adZ (v:Value) (n:Nat) (h:Heap) (hB:Bytes h v n) (hn:n<=1000000000000000) (hy:Pa h) :
  bI prog 23 [v] h λr h'=>h.le h'/\UnM h' r:=by
 refine bS au func23 G23 aev rfl ?_;conv=>whnf
 refine aD (Lt v n h hB hn) ?_;rintro v0 h0 ⟨bb,vb,rfl,rfl,r⟩;conv=>whnf
 refine bF r (by omega) (λx x0 x1 x2 r2=>?_);conv=>whnf
 apply ax<;>intro c0;all_goals conv=>whnf
 ·refine iC r2 (aeg r2 (by omega) hy) (λv g3 q3 l3 r3 q30 q31 hA=>?_);refine UnM.elim hA λp1 n1 c1 p2 n2 c2 u po co pf cf pw cw M B hv hu o s=>?_;subst hv;unfold kr aB at o ⊢;conv=>whnf
  exact⟨Heap.le_trans l3 (bh r3.free),_,u,_,M,B,rfl,hu.le (bh r3.free),o.aG (cC.of_le (bh r3.free) _),s⟩
 ·refine iC r2 (FF r2 (by omega) hy) (λv g3 q3 l3 r3 q30 q31 hA=>?_);refine Ls.elim hA λp1 n1 c1 p2 n2 c2 u hv hu=>?_;subst hv;conv=>whnf
  repeat' ((first|exact⟨Heap.le_trans l3 (Heap.le_trans l5 (bh r5.free)),_,u,_,R,B,rfl,hu.le (Heap.le_trans l5 (bh r5.free)),own.aG (cC.of_le (bh r5.free) _),xo.small.Wq⟩|apply And.intro|exact trivial|(refine iC r3 (zg r3 (by omega)) (λv g4 q4 l4 r4 XI XJ hA=>?_);obtain⟨rfl,x,rfl,x0,x1⟩:=hA;refine(Dt u x).elim λR xo=>?_)|(refine O2 r4 (R:=λv g'=>∃ mc B,v=.agg ⟨mc⟩/\gJ g' mc R B/\Nd B/\∀ b∈B,g4 b=none) (mM _ u x g4 hu R xo) (λv g5 l5 r5 hh=>?_);obtain⟨mc,B,rfl,own,nd,fr⟩:=hh;obtain⟨_,_,_,_,_,_,rfl⟩:=own.kr;unfold kr aB at own ⊢))<;>conv=>whnf)
open Go.Vc Go.Proofs.Tryz
set_option maxRecDepth 100000
set_option maxHeartbeats 4000000
theorem RH.le {h h':Heap} (hl:h.le h') {mc:List Value} {M:bZ} (hx:RH h mc M):RH h' mc M:=by
 obtain⟨vo,vf,vs,e,w1,w2,w3⟩:=hx;exact⟨vo,vf,vs,e,w1.le hl (λ_ _ hx=>ObQ.le hl hx),w2.le hl (λ_ _ hx=>abu.le hl hx),w3.le hl (λ_ _ hx=>hx)⟩
theorem ad8 (x:Vl) (n:Nat) (h:Heap):Pure prog 51 [.agg ⟨bR x⟩,.int .i64 n] h (tf (tD n x)):=by
 obtain⟨r,k⟩:=x;show Go.Vc.Pure _ _ [.agg #[.bool r,.int .i64 k],.int .i64 n] h (tf ((r=true->0<=k/\k<=n)/\(r=false->isWord k=true)));refine acd au func51 F51 aeC rfl ?_;cases r
 all_goals conv=>whnf
 ·refine ay (xS _ h) ?_;conv=>whnf
  refine⟨?_,Heap.le_refl h⟩;by_cases hw:isWord k=true
  ·rw[hw];exact jQ (by simp[hw])
  ·have:isWord k=false:=by simpa using hw
   rw[this];exact iO (by simp[this])
 ·refine ay (er _ _ _ h) ?_;conv=>whnf
  repeat' ((first|apply ax<;>intro g|apply aV<;>intro g)<;>conv=>whnf)
  all_goals first|exact⟨jQ ⟨λ_=>by omega,λh=>nomatch h⟩,Heap.le_refl h⟩|exact⟨iO (λhx=>by have:=hx.1 rfl;omega),Heap.le_refl h⟩|exact⟨lX ⟨λhx=>by have:=hx.1 rfl;omega,λhx=>⟨λ_=>by omega,λh=>nomatch h⟩⟩,Heap.le_refl h⟩
theorem adX (v:Value) (l:List Vl) (n:Nat) (h:Heap) (hv:Row 2 Sd h v l):Pure prog 97 [v,.int .i64 n] h (tf (∀ x∈l,tD n x)):=by
 obtain⟨p,c,rfl,hc,hn⟩:=hv.len;refine acd au func97 F97 aeH rfl ?_;conv=>whnf
 refine fm [0,1,5] [] (λi:Nat=>i<=l.length/\∀ x∈l.take i,tD n x) (λi=>l.length-i)
  (λi=>([.v (.slice p l.length c),.v (.int .i64 n),.v (.int .i64 i)],[],h)) 0 ⟨Nat.zero_le _,by simp⟩ rfl ?_
 rintro i ⟨hi,hj⟩;conv=>whnf
 apply ax<;>intro g;all_goals conv=>whnf
 ·have cG:i < l.length:=by omega
  obtain⟨b,off,vs,hp,e1,e2⟩:=hv.get cG;have fy:=ad8 l[i] n h;obtain rfl:=e2;unfold bR at fy;refine aq ?_;conv=>whnf
  refine aO hp ?_;conv=>whnf
  refine dK e1 ?_;conv=>whnf
  by_cases hw:tD n l[i]
  ·rw[lW hw]at fy;refine ay fy ?_;conv=>whnf
   refine aj ?_;conv=>whnf
   exact dm (i+1) ⟨by omega,λx hx=>by
    rw[List.take_add_one,List.mem_append]at hx;rcases hx with hx|hx
    ·exact hj x hx
    ·rw[List.getElem?_eq_getElem cG]at hx;simp at hx;subst hx;exact hw⟩ (by omega) rfl
  ·rw[eN hw]at fy;refine ay fy ?_;conv=>whnf
   exact⟨iO λha=>hw (ha _ (List.getElem_mem cG)),Heap.le_refl h⟩
 ·have:i=l.length:=by omega
  subst this;rw[List.take_length]at hj;exact⟨jQ hj,Heap.le_refl h⟩
theorem aec {K:Value->Heap->Prop} {E:List PanicEntry->Heap->Prop} {p:Option Addr} {n c:Nat} {cs:List dR} {x:Int} {h:Heap} (hr:fo h (.slice p n c) cs) (ok:cj cs) (h0:0<=x/\x < cs.length) (hK:∀ h' p' c',h.le h'->K (.slice p' (cX cs x).length c') h') :
  jA prog 98 [.slice p n c,.int .i64 x] h K E:=cE (lZ _ p n c cs x h hr ok h0.1 h0.2 (Nat.lt_succ_self _)) (λv h' hh=>by
 obtain⟨l1,B,own,_⟩:=hh;obtain⟨p',c',rfl,_⟩:=own.form;rw[List.length_map];exact⟨l1,hK h' p' c' l1⟩)
theorem ad5 {u:aU} {n:Nat} {o:Ob} (hV:∀ x∈o.bE,tD n x):RY u n o↔(((o.cls = -1\/o.cls = -2)/\o.bE.length<=6)\/(0<=o.cls/\o.cls < u.J.length/\o.bE.length=(cX u.J o.cls).length)):=⟨λh=>h.2,λh=>⟨hV,h⟩⟩
theorem aej (us:List Value) (u:aU) (o:Ob) (xs:List Value) (n:Nat) (h:Heap) (hu:dL h us u) (hT:eC u) (ho:ObQ h xs o):Pure prog 52 [.agg ⟨us⟩,.agg ⟨xs⟩,.int .i64 n] h (tf (RY u n o)):=by
 obtain⟨p,cc,q,d,rfl,hcs,fM,jN,hl2⟩:=hu.form;obtain⟨v,rfl,hv⟩:=ho;have J3:=adX v o.bE n h hv;obtain⟨pv,cv,rfl,hc,hn⟩:=hv.len;have adI:=hT.1;have zm:=hT.1.1;refine acd au func52 F52 aeD rfl ?_;conv=>whnf
 by_cases hV:∀ x∈o.bE,tD n x
 ·rw[lW hV]at J3;refine ay J3 ?_;conv=>whnf
  repeat' ((first|apply ax<;>intro _|apply aV<;>intro _|refine aj ?_|refine aT (er _ _ _ h) ?_|refine aec hcs adI (by omega) (λh' p' c' l1=>?_)|apply And.intro|exact trivial)<;>conv=>whnf)
  all_goals first|exact⟨lX ((ad5 hV).trans (by omega)),by first|exact Heap.le_refl h|assumption⟩|exact⟨jQ ((ad5 hV).2 (by omega)),by first|exact Heap.le_refl h|assumption⟩|exact⟨iO (λhx=>by have:=(ad5 hV).1 hx;omega),by first|exact Heap.le_refl h|assumption⟩
 ·rw[eN hV]at J3;refine ay J3 ?_;conv=>whnf
  exact⟨iO λhx=>hV hx.1,Heap.le_refl h⟩
theorem aek (vo vs:Value) (pf:Option Addr) (cf:Nat) (M:bZ) (h:Heap):Pure prog 55 [.agg ⟨aB vo (.slice pf M.ag.length cf) vs M⟩] h (tf (aaG M)):=by
 refine acd au func55 F55 aeF rfl ?_;unfold aB;have key:∀ b:Bool,(M.out.ref==false&&M.out.n==0)=b->∀ w:World,(Go.binOp .eql 33 (.agg #[.bool M.out.ref,.int .i64 M.out.n]) (.agg #[.bool false,.int .i64 0])).run prog w=.ok (.bool b) w:=λb U w=>by
  rw[<-U];exact acN M.out cJ w
 cases U:(M.out.ref==false&&M.out.n==0)<;>cases hr:M.out.ref
 all_goals
  have ab9:=key _ U;rw[hr]at ab9;conv=>whnf
  repeat' ((first|apply ax<;>intro _|apply aV<;>intro _|refine jd rfl rfl (λw=>by simp[eqGuard]) ab9 ?_)<;>conv=>whnf)
  all_goals first|exact⟨jQ ((acg hr U).2 (by simp only[Bool.true_eq_false,Bool.false_eq_true,and_true,and_false,true_and,false_and,or_false,false_or];omega)),Heap.le_refl h⟩|exact⟨iO (λhx=>by have:=(acg hr U).1 hx;simp only[Bool.true_eq_false,Bool.false_eq_true,and_true,and_false,true_and,false_and,or_false,false_or]at this;omega),Heap.le_refl h⟩|exact⟨lX ((acg hr U).trans (by simp only[Bool.true_eq_false,Bool.false_eq_true,and_true,and_false,true_and,false_and,or_false,false_or];omega)),Heap.le_refl h⟩
theorem ad6 (us:List Value) (u:aU) (f:bU) (xs:List Value) (n:Nat) (h:Heap) (hu:dL h us u) (hT:eC u) (ho:abu h xs f):Pure prog 53 [.agg ⟨us⟩,.agg ⟨xs⟩,.int .i64 n] h (tf (EW u n f)):=by
 obtain⟨p,cc,q,d,rfl,hcs,fM,jN,hl2⟩:=hu.form;obtain⟨v1,v2,rfl,hv1,Wl⟩:=ho;have k1:=adX v1 f.locals n h hv1;have k2:=adX v2 f.stack n h Wl;obtain⟨p1,c1,rfl,V1,D2⟩:=hv1.len;obtain⟨p2,c2,rfl,LD,OI⟩:=Wl.len;refine acd au func53 F53 aeE rfl ?_;by_cases hm:0<=f.ah/\f.ah < u.methods.length
 ·obtain⟨b,off,vs,hp,r1,m1⟩:=fM.get (i:=f.ah.toNat) (by omega);have em:u.methods[f.ah.toNat]'(by omega)=br u f.ah:=by unfold br;rw[List.getD_eq_getElem?_getD,List.getElem?_eq_getElem (by omega)];rfl
  rw[em]at m1;obtain⟨_,_,_,_,rfl,_,_,_,_,_,w6,_,_⟩:=m1;obtain⟨_,_,rfl,_,_⟩:=w6.len;have ra:=aK r1 (i:=4) rfl;have rb:=aK r1 (i:=5) rfl;conv=>whnf
  repeat' ((first|apply ax<;>intro _|refine aO hp ?_|refine aq ?_|refine ld rb ?_|refine ld ra ?_|refine aj ?_|refine aT (er _ _ _ h) ?_|apply And.intro|exact trivial)<;>conv=>whnf)
  all_goals try first|exact⟨iO (acO (by omega)),Heap.le_refl h⟩|(exfalso;omega)
  by_cases ab2:∀ v∈f.locals,tD n v
  ·rw[lW ab2]at k1;refine aT k1 ?_;conv=>whnf
   by_cases ab3:∀ v∈f.stack,tD n v
   ·rw[lW ab3]at k2;refine aT k2 ?_;conv=>whnf
    exact⟨jQ ((ach hm).2 ⟨by omega,by omega,by omega,ab2,ab3⟩),Heap.le_refl h⟩
   ·rw[eN ab3]at k2;refine aT k2 ?_;conv=>whnf
    exact⟨iO (λhx=>ab3 ((ach hm).1 hx).2.2.2.2),Heap.le_refl h⟩
  ·rw[eN ab2]at k1;refine aT k1 ?_;conv=>whnf
   exact⟨iO (λhx=>ab2 ((ach hm).1 hx).2.2.2.1),Heap.le_refl h⟩
 ·conv=>whnf
  repeat' ((first|apply ax<;>intro _|apply aV<;>intro _|refine aj ?_|refine aT (er _ _ _ h) ?_|apply And.intro|exact trivial)<;>conv=>whnf)
  all_goals first|exact⟨iO (λhx=>hm hx.1),Heap.le_refl h⟩|(exfalso;omega)
theorem ad2 (us mc:List Value) (u:aU) (M:bZ) (h:Heap) (hu:dL h us u) (hM:RH h mc M):Pure prog 25 [.agg ⟨us⟩,.agg ⟨mc⟩] h (tf (eC u/\zC u M)):=by
 have iJ:=hu;have hUn:=rA _ u h hu;obtain⟨p,cc,q,d,rfl,hcs,fM,jN,hl2⟩:=hu.form;obtain⟨vo,vf,vs,rfl,w1,w2,w3⟩:=hM;have hO:=ad8 M.out M.objs.length h;unfold bR at hO;obtain⟨po,co,rfl,OZ,PD⟩:=w1.len;obtain⟨pf,cf,rfl,hcf,Qn⟩:=w2.len;obtain⟨ps,cs,rfl,hcS,hns⟩:=w3.len;have aez:=aek (.slice po M.objs.length co) (.slice ps M.said.length cs) pf cf M h;refine acd au func25 F25 aeB rfl ?_;unfold aB at aez ⊢;conv=>whnf
 by_cases hU:eC u
 ·rw[lW hU]at hUn;refine ay hUn ?_;conv=>whnf
  by_cases hA:(0<=M.steps/\M.steps<=200)/\(7<=M.objs.length/\M.objs.length<=207)/\M.ag.length<=4/\M.said.length<=200
  ·by_cases adR:tD M.objs.length M.out
   ·rw[lW adR]at hO;repeat' ((first|refine cF ?_|refine bL ?_|refine ay (er _ _ _ h) ?_|refine ay hO ?_)<;>conv=>whnf)
    refine fm [2,3,5,6] [2,3] (λi:Nat=>i<=M.objs.length/\∀ j (hj:j < M.objs.length),j < i->ObA u M.objs.length j M.objs[j]) (λi=>M.objs.length-i)
     (λi=>([.l 2 0,.l 3 0,.v (.int .i64 M.objs.length),.v (.int .i64 i)],[some [.slice p u.J.length cc,.slice q u.methods.length d],some [.slice po M.objs.length co,.slice pf M.ag.length cf,.slice ps M.said.length cs,.int .i64 M.steps,.int .i64 M.fin,.bool M.out.ref,.int .i64 M.out.n]],h)) 0 ⟨Nat.zero_le _,λ_ _ h=>absurd h (by omega)⟩ rfl ?_
    rintro i ⟨hi,hj⟩;conv=>whnf
    apply ax<;>intro g;all_goals conv=>whnf
    ·have cG:i < M.objs.length:=by omega
     obtain⟨b,off,xs,hp,r1,m1⟩:=w1.get cG;have fy:=aej _ u M.objs[i] xs M.objs.length h iJ hU m1;obtain⟨v,rfl,_⟩:=m1;have ra:=aK r1 (i:=0) rfl;by_cases ab7:RY u M.objs.length M.objs[i]
     ·rw[lW ab7]at fy;repeat' ((first|apply ax<;>intro _|apply aV<;>intro _|refine aO hp ?_|refine aq ?_|refine dK r1 ?_|refine ld ra ?_|refine aT fy ?_|refine aj ?_|apply And.intro|exact trivial)<;>conv=>whnf)
      ·exact⟨iO (λhx=>by have:=(((acF u M).1 hx.2).2.2.1 i cG).2 (by omega);omega),Heap.le_refl h⟩
      all_goals exact dm (i+1) ⟨by omega,λj hl hjj=>by
       by_cases jv:j=i
       ·subst jv;exact⟨ab7,by omega⟩
       ·exact hj j hl (by omega)⟩ (by omega) rfl
     ·rw[eN ab7]at fy;repeat' ((first|refine aO hp ?_|refine aq ?_|refine dK r1 ?_|refine ld ra ?_|refine aT fy ?_|apply And.intro|exact trivial)<;>conv=>whnf)
      exact⟨iO λhx=>ab7 (((acF u M).1 hx.2).2.2.1 i cG).1,Heap.le_refl h⟩
    have Ij:i=M.objs.length:=by omega
    subst Ij;refine fm [2,3,5,7] [2,3] (λi:Nat=>i<=M.ag.length/\∀ f∈M.ag.take i,EW u M.objs.length f) (λi=>M.ag.length-i)
     (λi=>([.l 2 0,.l 3 0,.v (.int .i64 M.objs.length),.v (.int .i64 i)],[some [.slice p u.J.length cc,.slice q u.methods.length d],some [.slice po M.objs.length co,.slice pf M.ag.length cf,.slice ps M.said.length cs,.int .i64 M.steps,.int .i64 M.fin,.bool M.out.ref,.int .i64 M.out.n]],h)) 0 ⟨Nat.zero_le _,by simp⟩ rfl ?_
    rintro i ⟨hi,hjf⟩;conv=>whnf
    apply ax<;>intro g;all_goals conv=>whnf
    ·have cG:i < M.ag.length:=by omega
     obtain⟨b,off,xs,hp,r1,m1⟩:=w2.get cG;have fy:=ad6 _ u M.ag[i] xs M.objs.length h iJ hU m1;obtain⟨v1,v2,rfl,_⟩:=m1;by_cases ab7:EW u M.objs.length M.ag[i]
     ·rw[lW ab7]at fy;repeat' ((first|refine aO hp ?_|refine aq ?_|refine dK r1 ?_|refine aT fy ?_|refine aj ?_|apply And.intro|exact trivial)<;>conv=>whnf)
      exact dm (i+1) ⟨by omega,take_one cG hjf ab7⟩ (by omega) rfl
     ·rw[eN ab7]at fy;repeat' ((first|refine aO hp ?_|refine aq ?_|refine dK r1 ?_|refine aT fy ?_|apply And.intro|exact trivial)<;>conv=>whnf)
      exact⟨iO λhx=>ab7 (((acF u M).1 hx.2).2.2.2.1 _ (List.getElem_mem cG)),Heap.le_refl h⟩
    have Ij:i=M.ag.length:=by omega
    subst Ij;rw[List.take_length]at hjf;refine fm [3,8] [3] (λi:Nat=>i<=M.said.length/\∀ n∈M.said.take i,isWord n=true) (λi=>M.said.length-i)
     (λi=>([.l 3 0,.v (.int .i64 i)],[some [.slice po M.objs.length co,.slice pf M.ag.length cf,.slice ps M.said.length cs,.int .i64 M.steps,.int .i64 M.fin,.bool M.out.ref,.int .i64 M.out.n]],h)) 0 ⟨Nat.zero_le _,by simp⟩ rfl ?_
    rintro i ⟨hi,hjs⟩;conv=>whnf
    apply ax<;>intro g;all_goals conv=>whnf
    ·have cG:i < M.said.length:=by omega
     obtain⟨b,off,xs,hp,r1,m1⟩:=w3.get cG;have fy:=xS M.said[i] h;unfold NY at m1;subst m1;have ra:=aK r1 (i:=0) rfl;by_cases ab7:isWord M.said[i]=true
     ·rw[ab7]at fy;repeat' ((first|refine aO hp ?_|refine aq ?_|refine ld ra ?_|refine ay fy ?_|refine aj ?_)<;>conv=>whnf)
      exact dm (i+1) ⟨by omega,take_one cG hjs ab7⟩ (by omega) rfl
     ·rw[show isWord M.said[i]=false by simpa using ab7]at fy;repeat' ((first|refine aO hp ?_|refine aq ?_|refine ld ra ?_|refine ay fy ?_)<;>conv=>whnf)
      exact⟨iO λhx=>ab7 (((acF u M).1 hx.2).2.2.2.2.1 _ (List.getElem_mem cG)),Heap.le_refl h⟩
    have Ij:i=M.said.length:=by omega
    subst Ij;rw[List.take_length]at hjs;refine ay aez ?_;conv=>whnf
    refine⟨?_,Heap.le_refl h⟩;by_cases ab5:aaG M
    ·rw[lW ab5];exact jQ (And.intro hU <| (acF u M).2 ⟨hA,adR,λj hl=>hj j hl hl,hjf,hjs,ab5⟩)
    ·rw[eN ab5];exact iO λhx=>ab5 ((acF u M).1 hx.2).2.2.2.2.2
   ·rw[eN adR]at hO;repeat' ((first|refine cF ?_|refine bL ?_|refine ay (er _ _ _ h) ?_|refine ay hO ?_)<;>conv=>whnf)
    exact⟨iO λhx=>adR ((acF u M).1 hx.2).2.1,Heap.le_refl h⟩
  ·by_cases adR:tD M.objs.length M.out
   ·rw[lW adR]at hO;repeat' ((first|apply ax<;>intro _|apply aV<;>intro _|refine ay (er _ _ _ h) ?_|refine ay hO ?_|(exfalso;omega)|exact⟨iO λhx=>hA ((acF u M).1 hx.2).1,Heap.le_refl h⟩)<;>conv=>whnf)
   ·rw[eN adR]at hO;repeat' ((first|apply ax<;>intro _|apply aV<;>intro _|refine ay (er _ _ _ h) ?_|refine ay hO ?_|(exfalso;omega)|exact⟨iO λhx=>hA ((acF u M).1 hx.2).1,Heap.le_refl h⟩)<;>conv=>whnf)
 ·rw[eN hU]at hUn;refine ay hUn ?_;conv=>whnf
  exact⟨iO λhx=>hU hx.1,Heap.le_refl h⟩
section
variable {h:Heap} {bu bm b5 b6:Nat} {p q po pf ps:Option Addr} {cc d co cf cs:Nat} {u:aU} {M:bZ}
end
open Go.Vc Go.Proofs.Tryz
set_option maxRecDepth 100000
set_option maxHeartbeats 4000000
theorem aeh (u:aU) (M:bZ):∃ R,acC u M R:=by
 by_cases h:eC u/\zC u M
 ·exact⟨_,λ_=>rfl,λhn=>absurd h hn⟩
 ·exact⟨mL,λhp=>absurd hp h,λ_=>rfl⟩
theorem adY (us mc:List Value) (u:aU) (M:bZ) (h:Heap) (hu:dL h us u) (hM:xZ h mc M) (hQ:RH h mc M) (R:bZ) (xo:acC u M R):bI prog 24 [.agg ⟨us⟩,.agg ⟨mc⟩] h (Nl h R):=by
 have hOk:=ad2 us mc u M h hu hQ;have step:=λfs f hT hI hf eZ=>Hx mc us u M h fs f hM hu hT hI hf eZ;have copy:=Ag mc M h hM;obtain⟨p,cc,q,d,rfl,hcs,fM,jN,hl2⟩:=hu.form;obtain⟨vo,vf,vs,rfl,w1,w2,w3⟩:=hQ;obtain⟨po,co,rfl,OZ,PD⟩:=w1.len;obtain⟨pf,cf,rfl,hcf,Qn⟩:=w2.len;obtain⟨ps,cs,rfl,hcS,hns⟩:=w3.len;unfold aB at hOk step copy ⊢;refine bS au func24 F24 aeA rfl ?_;conv=>whnf
 refine acb hOk (λhP=>?_) (λhP=>?_);all_goals conv=>whnf
 ·rw[xo.1 hP];have hm:=hP.2;have l1:=hm.steps.2;have l2:=hm.len.2;have l3:=hm.pU;have stay:(M.fin≠0\/M.steps=200\/M.objs.length=207\/M.said.length=200)->gY u M=M:=λdZ=>by
   unfold gY;rw[if_pos (by omega)]
  have go:¬(M.fin≠0\/M.steps=200\/M.objs.length=207\/M.said.length=200)->∃ fs f,M.ag=fs++[f]/\M.fin=0/\pV u fs f M=gY u M:=λdZ=>by
   have cD:M.ag≠[]:=by
    rcases hm.fin with h1|h1|h1
    ·exact h1.2.1
    ·omega
    ·omega
   rcases List.eq_nil_or_concat M.ag with e|⟨gs,gl,e⟩
   ·exact absurd e cD
   ·have e:M.ag=gs++[gl]:=by simpa using e
    exact⟨gs,gl,e,by omega,(Gk e (by omega)).symm⟩
  clear hm;repeat' ((first|apply ax<;>intro _|apply aV<;>intro _)<;>conv=>whnf)
  all_goals first
   | (
    rw[stay (by omega)];refine aD copy (λv h1 hh=>?_);obtain⟨l1,F5,B,rfl,own,nd,fr⟩:=hh;obtain⟨_,_,_,_,_,_,rfl⟩:=own.kr;unfold kr aB at own ⊢;conv=>whnf
    exact⟨l1,_,B,rfl,own,nd,fr⟩)
   | (
    obtain⟨fs,f,hf,h0,e⟩:=go (by omega);rw[<-e];refine aD (step fs f hP.1 hP.2 hf h0) (λv h1 hh=>?_);obtain⟨l1,F5,B,rfl,own,nd,fr⟩:=hh;obtain⟨_,_,_,_,_,_,rfl⟩:=own.kr;unfold kr aB at own ⊢;conv=>whnf
    exact⟨l1,_,B,rfl,own,nd,fr⟩)
 ·rw[xo.2 hP];exact⟨Heap.le_refl h,_,[],rfl,yK h,λ_=>by simp,by simp⟩
def adJ (a b:List Ob):Prop:=a.length<=b.length/\b.length<=a.length+1/\∃ j,∀ i (hi:i < a.length),∃ o,b[i]? = some o/\o.cls=a[i].cls/\o.bE.length=a[i].bE.length/\(i≠j\/b.length=a.length+1->o.bE=a[i].bE)
theorem adJ.refl (a:List Ob):adJ a a:=⟨Nat.le_refl _,by omega,0,λi hi=>⟨a[i],List.getElem?_eq_getElem hi,rfl,rfl,λ_=>rfl⟩⟩
theorem adJ.more (a:List Ob) (o:Ob):adJ a (a++[o]):=⟨by simp,by simp,0,λi hi=>⟨a[i],by rw[List.getElem?_append_left hi,List.getElem?_eq_getElem hi],rfl,rfl,λ_=>rfl⟩⟩
theorem adJ.put (a:List Ob) (n:Int) (k:Int) (v:Vl):adJ a (iQ a n (putAt (aF a n).bE k v)):=by
 unfold iQ;refine⟨by simp,by simp,(n-1).toNat,λi hi=>?_⟩;by_cases e:(n-1).toNat=i
 ·subst e;have adT:aF a n=a[(n-1).toNat]:=by unfold aF;rw[List.getD_eq_getElem?_getD,List.getElem?_eq_getElem hi];rfl
  refine⟨_,by rw[List.getElem?_set_self hi],by simp only;rw[adT],by simp only[putAt,List.length_set];rw[adT],λh=>?_⟩;rcases h with h|h
  ·exact absurd rfl h
  ·simp at h
 ·exact⟨a[i],by rw[List.getElem?_set_ne e,List.getElem?_eq_getElem hi],rfl,rfl,λ_=>rfl⟩
theorem ad0 {u:aU} {x:dX} {aS:List Vl} {objs o':List Ob} {f f':bU} (h:bH u x aS objs f=.ok (o',f')):adJ objs o':=by
 have dD:∀ {n:Int} {b:Bool} {o:Ob},ef objs n b=.ok o->o=aF objs n:=λ{n b o} h=>by
  unfold ef at h;repeat' split at h
  all_goals first
   | (cases h;done)
   | (simp only[Except.ok.injEq]at h;exact h.symm)
 have Ow:∀ {y:Vl} {k n:Int} {o:Ob},qB objs y k n=.ok o->o=aF objs y.n:=λ{y k n o} h=>by
  unfold qB at h;split at h
  ·cases h
  ·rename_i o2 h2;split at h
   ·simp only[Except.ok.injEq]at h;subst h;exact dD h2
   ·cases h
 unfold bH at h;simp only[uf]at h;repeat' split at h
 all_goals first
  | (cases h;done)
  | (have:=yH h;subst this;first|exact adJ.more _ _|exact adJ.refl _)
  | (rename_i h1;have e:=Ow h1;simp only[Except.ok.injEq,Prod.mk.injEq]at h;obtain⟨rfl,_⟩:=h;rw[e];exact adJ.put _ _ _ _)
  | (rename_i h1;have e:=dD h1;simp only[Except.ok.injEq,Prod.mk.injEq]at h;obtain⟨rfl,_⟩:=h;rw[e];exact adJ.put _ _ _ _)
  | (simp only[Except.ok.injEq,Prod.mk.injEq]at h;obtain⟨rfl,_⟩:=h;exact adJ.refl _)
theorem ad3 {u:aU} {x:dX} {aS:List Vl} {objs o':List Ob} {f g:bU} {said jJ:List Int} {p9:Bool} {C:List Ob->bU->Prop} (h0:C objs f) (nr:∀ i v,C objs {f with locals:=f.locals.set i v}) (uw:∀ {f1 f2:bU} {v:Vl} {o:List Ob},C objs f1->di objs f1 v=.ok (o,f2)->C objs f2)
  (dD:∀ {o:List Ob} {g:bU},bH u x aS objs f=.ok (o,g)->C o g) (h:gK u x aS objs f said=.ok (o',g,jJ,p9)):C o' g:=by
 have hp:∀ {f1:bU} {v:Vl},C objs f1->eV objs f1 said v=.ok (o',g,jJ,p9)->C o' g:=by
  intro f1 v hC h;obtain⟨o,g1,h1,e⟩:=vL h;simp only[Prod.mk.injEq]at e;obtain⟨rfl,rfl,_⟩:=e;have:=uw hC h1;rw[yH h1];exact this
 have hs:∀ {s:List Int} {f1:bU} {b:Bool},C objs f1->(Except.ok (objs,f1,s,b):RV)=.ok (o',g,jJ,p9)->C o' g:=by
  intro s f1 b hC e;simp only[Except.ok.injEq,Prod.mk.injEq]at e;obtain⟨rfl,rfl,_⟩:=e;exact hC
 unfold gK at h;simp only at h;by_cases k1:x.kind=1
 ·rw[if_pos k1]at h;exact hp h0 h
 rw[if_neg k1]at h;by_cases k2:x.kind=2
 ·rw[if_pos k2]at h;exact hp h0 h
 rw[if_neg k2]at h;by_cases k3:x.kind=3
 ·rw[if_pos k3]at h;exact hp h0 h
 rw[if_neg k3]at h;by_cases k4:x.kind=4
 ·rw[if_pos k4]at h;exact hs (nr _ _) h
 rw[if_neg k4]at h;by_cases k5:x.kind=5
 ·rw[if_pos k5]at h;exact hs h0 h
 rw[if_neg k5]at h;by_cases k6:x.kind=6
 ·rw[if_pos k6]at h;split at h
  ·rename_i h1;exact hp (uw h0 h1) h
  ·cases h
 rw[if_neg k6]at h;by_cases k7:x.kind=7
 ·rw[if_pos k7]at h;split at h
  ·exact hp h0 h
  ·cases h
 rw[if_neg k7]at h;by_cases k8:x.kind=8
 ·rw[if_pos k8]at h;exact hs h0 h
 rw[if_neg k8]at h;by_cases k9:x.kind=9
 ·rw[if_pos k9]at h;exact hs h0 h
 rw[if_neg k9]at h;by_cases D3:x.kind=10
 ·rw[if_pos D3]at h;exact hs h0 h
 rw[if_neg D3]at h;by_cases OM:x.kind=11
 ·rw[if_pos OM]at h;exact hs h0 h
 rw[if_neg OM]at h;by_cases Db:x.kind=24
 ·rw[if_pos Db]at h;exact hs h0 h
 rw[if_neg Db]at h;split at h
 ·rename_i o1 g1 h1;simp only[Except.ok.injEq,Prod.mk.injEq]at h;obtain⟨rfl,rfl,_⟩:=h;exact dD h1
 ·cases h
theorem aeo {u:aU} {x:dX} {aS:List Vl} {objs o':List Ob} {f g:bU} {said jJ:List Int} {p9:Bool} (h:gK u x aS objs f said=.ok (o',g,jJ,p9)):adJ objs o' :=
 ad3 (C:=λo _=>adJ objs o) (adJ.refl _) (λ_ _=>adJ.refl _) (λh _=>h) (λh=>ad0 h) h
theorem aet {u:aU} {fs:List bU} {f:bU} {M M':bZ} (h:lz u fs f M=.ok M'):adJ M.objs M'.objs:=by
 have same:∀ {N:bZ},N.objs=M.objs->adJ M.objs N.objs:=λhN=>by rw[hN];exact adJ.refl _
 unfold lz at h;simp only at h;split at h
 ·cases h
 ·split at h
  ·cases h
  ·split at h
   ·unfold jk at h;simp only[uj]at h;repeat' split at h
    all_goals first
     | (cases h;done)
     | (have hc:=Fc h;exact same hc.1)
     | (simp only[Except.ok.injEq]at h;subst h;first|exact same rfl|exact same wK.1)
   ·split at h
    ·cases h
    ·rename_i objs g said p9 hm;simp only[Except.ok.injEq]at h;subst h;exact aeo hm
theorem ad9 (u:aU) (M:bZ):adJ M.objs (gY u M).objs:=by
 unfold gY;split
 ·exact adJ.refl _
 ·split
  ·exact adJ.refl _
  ·split
   ·rename_i M' h;show adJ M.objs M'.objs;exact aet h
   ·split
    ·exact adJ.refl _
    ·show adJ M.objs (cK u _ M).objs;rw[wK.1];exact adJ.refl _
def adM (f:bU):Prop:=f.locals.length<=1000/\f.stack.length<=1000
def adQ (l:List Ob):Prop:=∀ o∈l,o.bE.length<=1000
theorem aea {objs o':List Ob} {f f':bU} {v:Vl} (hf:adM f) (h:di objs f v=.ok (o',f')):adM f':=by
 unfold di at h;split at h
 ·simp only[Except.ok.injEq,Prod.mk.injEq]at h;obtain⟨_,rfl⟩:=h;exact⟨hf.1,by simp;omega⟩
 ·cases h
theorem aed {u:aU} {x:dX} {aS:List Vl} {objs o':List Ob} {f f':bU} (hc:cj u.J) (hx:x.kind=12->x.a < u.J.length) (hv:adQ objs) (hf:adM f) (h:bH u x aS objs f=.ok (o',f')):adQ o'/\adM f':=by
 have ic:adJ objs o'->o'.length=objs.length->adQ o':=λch e o ho=>by
  obtain⟨i,hi,rfl⟩:=List.mem_iff_getElem.1 ho;obtain⟨_,_,j,hj⟩:=ch;obtain⟨o2,e1,_,e2,_⟩:=hj i (by omega);rw[List.getElem?_eq_getElem hi]at e1;simp only[Option.some.injEq]at e1;rw[e1,e2];exact hv _ (List.getElem_mem _)
 have hch:=ad0 h;have add:∀(l:List Int) (k:Int),l.length<=1000->adQ (objs++[⟨k,l.map nothing⟩]):=λl k hl o ho=>by
  rcases List.mem_append.1 ho with ho|ho
  ·exact hv o ho
  ·rw[List.mem_singleton.1 ho];simpa using hl
 unfold bH at h;simp only[uf]at h;repeat' split at h
 all_goals first
  | (cases h;done)
  | (have e:=yH h;have fb:=aea hf h;subst e;refine⟨?_,fb⟩;first|exact hv|(refine add _ _ ?_;have:=fH hc (hx (by assumption));omega)|(refine add _ _ ?_;simp only[List.length_replicate];omega))
  | (simp only[Except.ok.injEq,Prod.mk.injEq]at h;obtain⟨rfl,rfl⟩:=h;exact⟨ic hch (by simp[iQ]),hf⟩)
  | (simp only[Except.ok.injEq,Prod.mk.injEq]at h;obtain⟨rfl,rfl⟩:=h;exact⟨hv,hf⟩)
theorem aef {u:aU} (hu:eC u) (k:Int):(br u k).locals<=3:=by
 unfold br;rw[List.getD_eq_getElem?_getD];cases h:u.methods[k.toNat]? with
 | none=>simp[VN]
 | some m=>exact(hu.2.2.2.1 m (List.mem_of_getElem? h)).1.2.2.2.2.1
structure adO (n:Nat) (M:bZ):Prop where
 ob:adQ M.objs
 fr:∀ f∈M.ag,adM f
 nf:M.ag.length<=n
theorem ad4 {u:aU} {k:Int} {n:Nat} {M:bZ} (h:adO n M):adO n (cK u k M):=by
 unfold cK;split
 ·rename_i l hl;obtain⟨l1,f,r,c,e,_,rfl⟩:=wF hl;have hm:∀ g,g∈l1++f::r->adM g:=λg hg=>h.fr g (by rw[<-e]at hg;simpa using hg);have hlen:=congrArg List.length e;simp only[List.length_reverse,List.length_append,List.length_cons]at hlen;refine⟨h.ob,λg hg=>?_,by simp;have:=h.nf;omega⟩;simp only[List.mem_reverse,List.mem_cons]at hg;rcases hg with rfl|hg
  ·exact⟨(hm f (by simp)).1,by simp⟩
  ·exact hm g (by simp[hg])
 ·exact⟨h.ob,by simp,by simp⟩
theorem aeb {u:aU} (hu:eC u) {to:Int} {aS:List Vl} {M M':bZ} {n:Nat} (ht:aS.length<=1000) (hM:adO n M) (h:jI u to aS M=.ok M'):adO (n+1) M':=by
 unfold jI at h;split at h
 ·cases h
 ·simp only[Except.ok.injEq]at h;subst h;refine⟨hM.ob,λg hg=>?_,by simp;have:=hM.nf;omega⟩;rcases List.mem_append.1 hg with hg|hg
  ·exact hM.fr g hg
  ·rw[List.mem_singleton.1 hg];have:=aef hu to;exact⟨by simp[gW];omega,by simp[gW]⟩
theorem aeu {u:aU} (hu:eC u) {M M':bZ} {fs:List bU} {f:bU} {n:Nat} (hM:adO n M) (gA:M.ag=fs++[f]) (hm:0<=f.ah/\f.ah < u.methods.length) (D0:0<=f.pc) (h:lz u fs f M=.ok M'):adO (n+1) M':=by
 have G7:adM f:=hM.fr f (by rw[gA];simp);have sF:∀ g∈fs,adM g:=λg hg=>hM.fr g (by rw[gA];simp[hg]);have Qn:=hM.nf;rw[gA,List.length_append,List.length_singleton]at Qn;unfold lz at h;simp only at h;split at h
 ·cases h
 rename_i iS;have hx:∀ x,x=(br u f.ah).code.getD f.pc.toNat dW->x.kind=12->x.a < u.J.length:=λx e hk=>by
  have hl:f.pc.toNat < (br u f.ah).code.length:=by omega
  have e2:x=(br u f.ah).code[f.pc.toNat]:=by rw[e,List.getD_eq_getElem?_getD,List.getElem?_eq_getElem hl];rfl
  have hI:=(hu.br hm).2.1.2.2.2.1 x (by rw[e2];exact List.getElem_mem hl);obtain⟨kind,a,b⟩:=x;simp only at hk;subst hk;have:=(aI (p:=5) (q:=0) rfl).1 hI;simp[bA]at this;show a < u.J.length;omega
 generalize hxe:(br u f.ah).code.getD f.pc.toNat dW=x at h;have hx:=hx x hxe.symm;split at h
 ·cases h
 rename_i aS rest ht;obtain⟨ws,_,_,_,dZ⟩:=mq ht;have hlen:=congrArg List.length dZ;rw[List.length_append]at hlen;have h2:=G7.2;have N1:adM {f with stack:=rest}:=⟨G7.1,by simp only;omega⟩
 have A3:adO n {M with ag:=fs++[{f with stack:=rest}]}:=⟨hM.ob,λg hg=>by
  rcases List.mem_append.1 hg with hg|hg
  ·exact sF g hg
  ·rw[List.mem_singleton.1 hg];exact N1,by simp only[List.length_append,List.length_singleton];omega⟩
 have up:∀ {N:bZ},adO n N->adO (n+1) N:=λ{N} h=>⟨h.ob,h.fr,by have:=h.nf;omega⟩
 split at h
 ·unfold jk at h;simp only at h;split at h
  ·exact aeb hu (by omega) A3 h
  split at h
  ·split at h
   ·cases h
   ·exact aeb hu (by omega) A3 h
  split at h
  ·unfold uj at h;split at h
   ·simp only[Except.ok.injEq]at h;subst h;exact⟨hM.ob,by simp,by simp⟩
   ·rename_i g hg;split at h
    ·simp only[Except.ok.injEq]at h;subst h;have RW:g∈fs:=List.mem_of_getLast? hg;refine⟨hM.ob,λk hk=>?_,by simp;omega⟩;rcases List.mem_append.1 hk with hk|hk
     ·exact sF k (List.dropLast_subset _ hk)
     ·rw[List.mem_singleton.1 hk];exact⟨(sF g RW).1,by simp;omega⟩
    ·cases h
  split at h
  ·split at h
   ·cases h
   ·simp only[Except.ok.injEq]at h;subst h;exact up (ad4 A3)
  ·simp only[Except.ok.injEq]at h;subst h;exact up A3
 ·split at h
  ·cases h
  ·rename_i objs g said p9 fY;simp only[Except.ok.injEq]at h;subst h;have:=ad3 (C:=λo g=>adQ o/\adM g) ⟨hM.ob,N1⟩ (λi v=>⟨hM.ob,by simpa [adM]using N1⟩) (λhC hp=>⟨hC.1,aea hC.2 hp⟩) (λdD=>aed hu.1 hx hM.ob N1 dD) fY;refine⟨this.1,λk hk=>?_,by simp;omega⟩;rcases List.mem_append.1 hk with hk|hk
   ·exact sF k hk
   ·rw[List.mem_singleton.1 hk];exact this.2
theorem ael {u:aU} (hu:eC u) {M:bZ} {n:Nat} (h:zC u M) (hM:adO n M):adO (n+1) (gY u M):=by
 have up:∀ {N:bZ} {s f:Int} {n:Nat},adO n N->adO (n+1) {N with steps:=s,fin:=f}:=λ{N _ _ _} h=>⟨h.ob,h.fr,by have:=h.nf;simp only;omega⟩
 unfold gY;split
 ·exact⟨hM.ob,hM.fr,by have:=hM.nf;omega⟩
 split
 ·exact⟨hM.ob,hM.fr,by have:=hM.nf;omega⟩
 rename_i f sP;have gA:M.ag=M.ag.dropLast++[f]:=by
  have cD:M.ag≠[]:=by intro hx;rw[hx]at sP;cases sP
  have:=List.dropLast_concat_getLast cD;rw[List.getLast?_eq_some_getLast cD]at sP;simp only[Option.some.injEq]at sP;rw[sP]at this;exact this.symm
 have hF:=h.jy f (List.mem_of_getLast? sP);split
 ·rename_i M' hd;have:=aeu hu hM gA hF.1 hF.2.1.1 hd;exact⟨this.ob,this.fr,this.nf⟩
 ·split
  ·exact up (f:=3) hM
  ·have:=ad4 (u:=u) (k:=‹Int›) hM;exact⟨this.ob,this.fr,by have:=this.nf;simp only;omega⟩
theorem aee {u:aU} (hu:eC u) {M:bZ} (h:zC u M):Lx (gY u M):=by
 have hs:=h.small hu;have t0:adO 4 M:=⟨λo ho=>by
  rcases(h.objs o ho).2 with ⟨_,h2⟩|⟨_,h2,h3⟩
  ·omega
  ·have:=fH hu.1 h2;omega,λf hf=>by
  have hF:=h.jy f hf;have:=aef hu f.ah;have:=hF.2.2.1;have:=hF.2.2.2.1;exact⟨by omega,by omega⟩,h.nf⟩
 have t:=ael hu h t0;obtain⟨c1,c2,_⟩:=ad9 u M;have l1:=h.len.2;have l2:=h.pU;refine⟨by unfold Lu;omega,λo ho=>by have:=t.ob o ho;unfold Lv Lu;omega,by have:=t.nf;unfold Lu;omega,λf hf=>by have:=t.fr f hf;unfold Lw Lu adM at *;omega,?_⟩;rcases yI (u:=u) (M:=M)with e|e
 ·rw[e.1];unfold Lu;omega
 ·have:=e.2.2.1;unfold Lu;omega
theorem aep {P:Program} {t:TypeId} {f0 f1:Field} {k':IntKind} (a a':Bool) (c c':Int) (h3:P.underlying t=some (.struct #[f0,f1])) (h4:P.stoodInHeld t=false) (rJ:f0.name≠ "_") (D2:f1.name≠ "_") (h5:P.underlying f0.type=some .bool) (h6:P.underlying f1.type=some (.int k'))
  (HO:∀(a:Bool) (c:Int) (w:World),(part f0.type #[.bool a,.int .i64 c] f0.offset).run P w=.ok (.bool a) w) (zD:∀(a:Bool) (c:Int) (w:World),(part f1.type #[.bool a,.int .i64 c] f1.offset).run P w=.ok (.int .i64 c) w) (w:World) :
  (Go.binOp .neq t (.agg #[.bool a,.int .i64 c]) (.agg #[.bool a',.int .i64 c'])).run P w=.ok (.bool (!(a==a'&&c==c'))) w:=by
 have hf:P.fieldsOf t = #[f0,f1]:=by simp[Program.fieldsOf,h3]
 have e1:(Op.equalIn (9999+1) t (.agg #[.bool a,.int .i64 c]) (.agg #[.bool a',.int .i64 c'])).run P w=.ok (a==a'&&c==c') w:=by
  rw[run_equalIn_struct w 9999 t _ _ (by rw[hf];exact h3) h4,hf];simp only[Op.eqFields,rJ,D2,ne_eq,not_false_eq_true,if_true,Sem.run_bind,HO,zD,Result.andThen_ok];rw[show(9999:Nat)=9998+1 from rfl,run_equalIn_bool' w 9998 f0.type a a' h5];by_cases ha:a=a'
  ·subst ha;simp only[Result.andThen_ok,beq_self_eq_true,Bool.not_true,Bool.false_eq_true,if_false,Sem.run_bind,zD];rw[run_equalIn_int w 9998 f1.type .i64 k' c c' h6];by_cases hc:c=c'<;>simp[hc]
  ·have:(a==a')=false:=by simpa using ha
   simp[this]
 have e3:(Op.equal t (.agg #[.bool a,.int .i64 c]) (.agg #[.bool a',.int .i64 c'])).run P w=.ok (a==a'&&c==c') w:=e1;rw[show Go.binOp .neq t (.agg #[.bool a,.int .i64 c]) (.agg #[.bool a',.int .i64 c'])=(do pure (.bool (!(<-Op.equal t (.agg #[.bool a,.int .i64 c]) (.agg #[.bool a',.int .i64 c'])))))from rfl];simp only[Sem.run_bind,e3,Result.andThen_ok,Sem.run_pure]
theorem aem (x y:Vl) (b:Bool) (U:b = !(x.ref==y.ref&&x.n==y.n)) (w:World):(Go.binOp .neq 33 (.agg #[.bool x.ref,.int .i64 x.n]) (.agg #[.bool y.ref,.int .i64 y.n])).run prog w=.ok (.bool b) w:=by
 subst U;refine aep _ _ _ _ rfl ?_ ?_ ?_ rfl rfl ?_ ?_ w
 ·kernel_rfl
 ·decide
 ·decide
 ·intro a c w;rfl
 ·intro a c w;rfl
theorem aer {x y:Vl}:(x.ref==y.ref&&x.n==y.n)=true↔x=y:=by
 obtain⟨r,n⟩:=x;obtain⟨s,m⟩:=y;simp
theorem aen (v w:Value) (l k:List Vl) (h:Heap) (hv:Row 2 Sd h v l) (hw:Row 2 Sd h w k):Pure prog 26 [v,w] h (tf (l=k)):=by
 obtain⟨p,c,rfl,hc,hn⟩:=hv.len;obtain⟨q,d,rfl,hd,_⟩:=hw.len;refine acd au func26 F26 Zs rfl ?_;conv=>whnf
 apply aV<;>intro g;all_goals conv=>whnf
 ·exact⟨iO (λhx=>by subst hx;omega),Heap.le_refl h⟩
 have BZ:l.length=k.length:=by omega
 refine fm [0,1,5] [] (λi:Nat=>i<=l.length/\∀ j (h1:j < l.length) (h2:j < k.length),j < i->l[j]=k[j]) (λi=>l.length-i)
  (λi=>([.v (.slice p l.length c),.v (.slice q k.length d),.v (.int .i64 i)],[],h)) 0 ⟨Nat.zero_le _,λ_ _ _ h=>absurd h (by omega)⟩ rfl ?_
 rintro i ⟨hi,hj⟩;conv=>whnf
 apply ax<;>intro g;all_goals conv=>whnf
 ·have cG:i < l.length:=by omega
  have hik:i < k.length:=by omega
  obtain⟨b,off,vs,hp,e1,e2⟩:=hv.get cG;obtain⟨b',dU,ws,hq,d1,d2⟩:=hw.get hik;obtain rfl:=e2;obtain rfl:=d2;by_cases he:l[i]=k[i]
  ·repeat' ((first|refine aO hp ?_|refine aO hq ?_|refine dK e1 ?_|refine dK d1 ?_|refine aj ?_|refine aq ?_)<;>conv=>whnf)
   refine GG rfl rfl (λw=>by simp[eqGuard]) (λw=>aem _ _ false (by rw[aer.2 he];rfl) w) ?_;conv=>whnf
   refine aj ?_;conv=>whnf
   exact dm (i+1) ⟨by omega,λj h1 h2 h3=>by
    by_cases jv:j=i
    ·subst jv;exact he
    ·exact hj j h1 h2 (by omega)⟩ (by omega) rfl
  ·have hf:(l[i].ref==k[i].ref&&l[i].n==k[i].n)=false:=by
    cases hx:(l[i].ref==k[i].ref&&l[i].n==k[i].n)
    ·rfl
    ·exact absurd (aer.1 hx) he
   repeat' ((first|refine aO hp ?_|refine aO hq ?_|refine dK e1 ?_|refine dK d1 ?_|refine aj ?_|refine aq ?_)<;>conv=>whnf)
   refine GG rfl rfl (λw=>by simp[eqGuard]) (λw=>aem _ _ true (by rw[hf];rfl) w) ?_;conv=>whnf
   exact⟨iO (λhx=>he (by subst hx;rfl)),Heap.le_refl h⟩
 ·exact⟨jQ (List.ext_getElem BZ λj h1 h2=>hj j h1 h2 (by omega)),Heap.le_refl h⟩
theorem acC.NZ {u:aU} {M R:bZ} (xo:acC u M R):Lx R:=by
 by_cases hP:eC u/\zC u M
 ·rw[xo.1 hP];exact aee hP.1 hP.2
 ·rw[xo.2 hP];exact⟨by simp[mL,Lu],by simp[mL],by simp[mL,Lu],by simp[mL],by simp[mL,Lu]⟩
theorem ad1 (v:Value) (n:Nat) (h:Heap) (hB:Bytes h v n) (hn:n<=140737488355328) (hy:Pa h):Pure prog 7 [v] h (.bool true):=by
 have XL:=hB;obtain⟨p,c,rfl,hc,_⟩:=hB;refine GN au func7 adL ok7 rfl ?_;conv=>whnf
 apply ax<;>intro g;all_goals conv=>whnf
 ·exact⟨rfl,Heap.le_refl h⟩
 refine aD (adZ _ n h XL (by omega) hy) ?_;rintro v0 h0 ⟨l0,hA⟩;refine UnM.elim hA λp1 n1 c1 p2 n2 c2 u po co pf cf pw cw M B0 hv hu o0 sm=>?_;subst hv;have hM0:=o0.read sm.small;have hQ0:=o0.pY sm.small.NZ;obtain⟨R,xo⟩:=aeh u M;have ti:=xo.NZ;unfold kr aB at o0 hM0 hQ0 ⊢;conv=>whnf
 refine aD (ack _ _ u M h0 hu hM0 hQ0 R xo) ?_;rintro v1 h1 ⟨l1,m1,B1,rfl,o1,n1,f1⟩;obtain⟨adV,do_,adU,df,adW,adS,rfl⟩:=o1.kr;unfold kr aB at o1 ⊢;have CT:=hu.le l1;conv=>whnf
 refine cE (adY _ _ u M h1 CT (hM0.le l1) (hQ0.le l1) R xo) (λv2 h2 hh=>?_);obtain⟨l2,m2,B2,rfl,o2,n2,f2⟩:=hh;obtain⟨_,_,_,_,_,_,rfl⟩:=o2.kr;refine⟨l2,?_⟩;unfold kr aB at o2 ⊢;have F6:=Heap.le_trans l1 l2;have oq:=(o1.aG (cC.of_le l2 _)).pY ti;conv=>whnf
 refine aT (oD _ _ R h2 oq (o2.pY ti)) ?_;have yw:=hu.le F6;have zi:=hM0.le F6;have hQ2:=hQ0.le F6;have Gl:=Heap.le_trans l0 F6;conv=>whnf
 refine acu (ad2 _ _ u M h2 yw hQ2) (λhP=>?_) (λhP=>?_);all_goals conv=>whnf
 ·have hch:=ad9 u M;rw[<-xo.1 hP]at hch;obtain⟨b1,b2,j,hj⟩:=hch;have hlen:=hP.2.len;obtain⟨vo,vf,vs,e,w1,_,_⟩:=hQ2;simp only[aB,List.cons.injEq,and_true]at e;obtain⟨rfl,rfl,rfl⟩:=e;obtain⟨vo,vf,vs,e,x1,_,_⟩:=oq;simp only[aB,List.cons.injEq,and_true]at e;obtain⟨rfl,rfl,rfl⟩:=e;repeat' ((first|refine bL ?_|refine aj ?_)<;>conv=>whnf)
  refine fm [4,5,6,7,8] [4,5] (λs:Nat × Nat=>s.1<=M.objs.length/\(s.2=0\/s.2=1/\R.objs.length=M.objs.length/\j < s.1)) (λs=>M.objs.length-s.1)
   (λs=>([.l 4 0,.l 5 0,.v (.int .i64 M.objs.length),.v (.int .i64 s.2),.v (.int .i64 s.1)],[some [.slice po M.objs.length co,.slice pf M.ag.length cf,.slice pw M.said.length cw,.int .i64 M.steps,.int .i64 M.fin,.bool M.out.ref,.int .i64 M.out.n],some [.slice adV R.objs.length do_,.slice adU R.ag.length df,.slice adW R.said.length adS,.int .i64 R.steps,.int .i64 R.fin,.bool R.out.ref,.int .i64 R.out.n]],h2)) (0,0) ⟨Nat.zero_le _,.inl rfl⟩ rfl ?_
  rintro⟨i,c⟩ ⟨hi,L9⟩;simp only at hi L9 ⊢;conv=>whnf
  apply ax<;>intro g;all_goals conv=>whnf
  ·have cG:i < M.objs.length:=by omega
   have vC:i < R.objs.length:=by omega
   obtain⟨o,ho,oc,ol,oe⟩:=hj i cG;rw[List.getElem?_eq_getElem vC,Option.some.injEq]at ho;obtain⟨b,off,xs,hp,r1,a1⟩:=w1.get cG;obtain⟨b',dU,ys,hq,d1,a2⟩:=x1.get vC;rw[ho]at a2;obtain⟨va,rfl,ra⟩:=a1;obtain⟨vb,rfl,rb⟩:=a2;have kv:=aen _ _ _ _ h2 rb ra;obtain⟨_,_,rfl,_,_⟩:=ra.len;obtain⟨_,_,rfl,_,_⟩:=rb.len;have la:=aK r1 (i:=0) rfl;have lb:=aK d1 (i:=0) rfl;have la1:=aK r1 (i:=1) rfl;have lb1:=aK d1 (i:=1) rfl;repeat' ((first|refine bL ?_|refine cF ?_|refine aO hp ?_|refine aO hq ?_|refine aq ?_|refine ld la ?_|refine ld lb ?_|refine ld la1 ?_|refine ld lb1 ?_|apply And.intro|exact trivial)<;>conv=>whnf)
   all_goals refine acu kv (λhe=>?_) (λhe=>?_)
   all_goals conv=>whnf
   all_goals repeat' ((first|apply And.intro|exact trivial|refine aj ?_)<;>conv=>whnf)
   ·exact dm (i+1,c) ⟨by simp only;omega,by simp only;omega⟩ (by simp only;omega) rfl
   ·have hd:¬(i≠j\/R.objs.length=M.objs.length+1):=λhx=>he (oe hx);have hc0:c=0:=by
     rcases L9 with h0|⟨_,_,h3⟩
     ·exact h0
     ·exact absurd (.inl (by omega)) hd
    subst hc0;have e1:i=j:=Classical.byContradiction λhx=>hd (.inl hx);have e2:R.objs.length=M.objs.length:=by
     have:=λhx=>hd (.inr hx);omega
    exact dm (i+1,1) ⟨by simp only;omega,.inr ⟨rfl,e2,by simp only;omega⟩⟩ (by simp only;omega) rfl
  ·have nV:i=M.objs.length:=by omega
   subst nV;repeat' ((first|apply ax<;>intro _|apply aV<;>intro _)<;>conv=>whnf)
   all_goals first|(exfalso;omega)|exact⟨rfl,Gl⟩|exact⟨by rw[decide_eq_true (by omega)],Gl⟩
 ·skip
  refine cE (adY _ _ u M h2 yw zi hQ2 R xo) (λv3 h3 hh=>?_);obtain⟨l3,m3,B3,rfl,o3,n3,f3⟩:=hh;obtain⟨_,_,_,_,_,_,rfl⟩:=o3.kr;refine⟨l3,?_⟩;unfold kr aB at o3 ⊢;conv=>whnf
  refine aT (oD _ _ R h3 ((o1.aG (cC.of_le (Heap.le_trans l2 l3) _)).pY ti) (o3.pY ti)) ?_;conv=>whnf
  exact⟨rfl,Heap.le_trans Gl l3⟩
theorem FnRunThings_c (v:Value) (n:Nat) (h:Heap) (hB:Bytes h v n) (hn:n<=140737488355328):Pure prog 7 [v] h (.bool true):=by
 obtain⟨hs,hl,U,hy⟩:=wO hB;exact DU hl (ad1 v n hs U hn hy)
end Go.Proofs
