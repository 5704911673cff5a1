/- Lemmas. -/
import Derived.Test.YtclenamodemnpaaGreatProg
import Derived.Test.YtclenamodemnpaaGreatMh10
set_option linter.unusedSimpArgs false
set_option linter.unusedVariables false
namespace Go.Proofs
open Go.Vc Go.Proofs.Tryz
theorem Z_ {ε α:Type} (a b:α):((Except.ok a:Except ε α)=.ok b)=(a=b):=Except.ok.injEq a b
theorem Y_ {p q:Prop} (h:p) (k:q):p ∧ q:=⟨h,k⟩
theorem X_ {l:List Nat} {a:Nat} (h:a∈l):0<l.count a:=List.count_pos_iff.2 h
theorem W_ {α:Type} {l k:List α}:(l++k).length=l.length+k.length:=List.length_append
theorem V_ (n:Nat):0<=n:=Nat.zero_le n
def Q_:PT:=.one 4 (.one 5 (.one 6 .nil))
def QQ:PT:=.one 11 (.one 13 (.one 14 .nil))
def P_:PT:=.one 15 (.one 16 (.one 17 (.one 18 .nil)))
def PQ:PT:=.one 13 (.one 14 (.one 15 (.one 16 .nil)))
def N_:PT:=.one 7 (.one 10 QQ)
def M2:PT:=.one 0 (.alt 1 (.one 2 (.one 3 .nil)) (.alt 2 (.one 1 (.one 3 .nil)) .fO))
def M_:PT:=.one 4 (.one 5 (.one 6 N_))
def L_:PT:=.one 5 (.one 6 (.one 9 N_))
def K_:PT:=.one 10 (.alt 11 (.one 12 (.one 13 (.one 14 .nil))) (.alt 12 QQ .fO))
def J_:PT:=.one 5 (.one 6 (.alt 7 K_ (.alt 12 N_ .fO)))
def H0:PT:=.alt 2 J_ (.alt 12 (.one 2 (.one 5 (.one 6 N_))) .fO)
def H1:PT:=.one 5 (.one 6 (.alt 7 (.alt 9 K_ (.alt 12 (.one 9 (.one 10 QQ)) .fO)) (.alt 9 (.alt 7 K_ (.alt 12 N_ .fO)) (.alt 12 (.one 9 N_) .fO))))
def Tryz.F14:Fs:={L:=[3,4,5,6,7],LL:=[28,29,30,38,39,40,55,62,67,69],cr:=[(6,[0,1,2,3,4,5,6,7,8,9]),(7,[0,1,2,3,4,5]),(11,[0,3,4,1,2,5,6,7,9,12,14,8,10,13,15,16,17,18,19,11,20,21,22,23])]}
theorem Tryz.afo:aQ F14 Tryz.f14 1=true:=by kernel_rfl
def Tryz.F22:Fs:={L:=[2,3,4]}
theorem Tryz.afp:aQ F22 Tryz.f22 2=true:=by kernel_rfl
def Tryz.F24:Fs:={L:=[2,3,4]}
theorem Tryz.afq:aQ F24 Tryz.f24 2=true:=by kernel_rfl
def Tryz.F25:Fs:={L:=[2,3],LL:=[50,52,64,79,81],cr:=[(7,[1,3,6,0,2,4,5,7,8,9,10,11,12,13,15,14,16,17,18,19,20,21]),(12,[1,3,6,0,2,4,5,7,8])]}
theorem Tryz.afr:aQ F25 Tryz.f25 2=true:=by kernel_rfl
def Tryz.F27:Fs:={L:=[2,3]}
theorem Tryz.afs:aQ F27 Tryz.f27 2=true:=by kernel_rfl
def Tryz.F29:Fs:={L:=[2,3],LL:=[29,31,33,38,40],cr:=[(6,[1,3,5,10,12,0,2,4,6,7,9,11,13,8,14,15,16,17])]}
theorem Tryz.aft:aQ F29 Tryz.f29 2=true:=by kernel_rfl
def Tryz.F31:Fs:={L:=[2,3,4,5,7],LL:=[44,46,48,53],trees:=[(4,(.one 1 (.one 3 (.one 8 (.one 0 (.alt 2 (.alt 4 H1 (.alt 9 (.alt 4 J_ (.alt 12 M_ .fO)) (.alt 12 (.one 4 L_) .fO))) (.alt 4 (.alt 2 H1 (.alt 9 H0 (.alt 12 (.one 2 L_) .fO))) (.alt 9 (.alt 2 (.alt 4 J_ (.alt 12 M_ .fO)) (.alt 4 H0 (.alt 12 (.one 2 M_) .fO))) (.alt 12 (.one 2 (.one 4 L_)) .fO)))))))))]}
theorem Tryz.afu:aQ F31 Tryz.f31 2=true:=by kernel_rfl
def Tryz.F51:Fs:={L:=[2]}
theorem Tryz.afv:aQ F51 Tryz.f51 2=true:=by kernel_rfl
def Tryz.F52:Fs:={L:=[3,4],LL:=[25,27,33,36,38],cr:=[(5,[0,2,1,3,4,5,6,7,8,11,13,9,10,12,14,15,16,17,18,19])]}
theorem Tryz.afw:aQ F52 Tryz.f52 3=true:=by kernel_rfl
def Tryz.F53:Fs:={L:=[3,4],LL:=[8,10,16,18,20,29,32,34,42,48,54],cr:=[(1,[0,2,1,3,4,5,6,7,8,10,12,9,11,13,14,15,16,17,18,19,20,21,24,26,22,23,25,27,28,29,30,31,32,33,34,35,36,37,38,39,40,42,41,43,44,45,46,48,47,49,50,51])]}
theorem Tryz.afx:aQ F53 Tryz.f53 3=true:=by kernel_rfl
def Tryz.F55:Fs:={L:=[1]}
theorem Tryz.afy:aQ F55 Tryz.f55 1=true:=by kernel_rfl
def Tryz.F56:Fs:={}
theorem Tryz.afz:aQ F56 Tryz.f56 2=true:=by kernel_rfl
def Tryz.F57:Fs:={L:=[1],LL:=[14,16],cr:=[(4,[1,3,0,2,4,5,6,7,8,9,10,11])]}
theorem Tryz.afA:aQ F57 Tryz.f57 1=true:=by kernel_rfl
def Tryz.F58:Fs:={L:=[4],LL:=[22],cr:=[(6,[0,2,3,4,5,8,9,10,1,6,11,7,12,13])]}
theorem Tryz.afB:aQ F58 Tryz.f58 4=true:=by kernel_rfl
def Tryz.F59:Fs:={L:=[2,3,27]}
theorem Tryz.afC:aQ F59 Tryz.f59 2=true:=by kernel_rfl
def Tryz.F60:Fs:={L:=[3,4,7,10],LL:=[18,20,22,75,77,79,84],cr:=[(2,[1,3,0,2,4,5,6,7,8,9,10,11,12]),(10,[1,3,8,0,2,4,5,6,9,7,10,11,12,13])]}
theorem Tryz.afD:aQ F60 Tryz.f60 3=true:=by kernel_rfl
def Tryz.F96:Fs:={L:=[4]}
theorem Tryz.afE:aQ F96 Tryz.f96 2=true:=by kernel_rfl
def Tryz.F97:Fs:={}
theorem Tryz.afF:aQ F97 Tryz.f97 2=true:=by kernel_rfl
def Tryz.F99:Fs:={L:=[2]}
theorem Tryz.afG:aQ F99 Tryz.f99 2=true:=by kernel_rfl
def Tryz.aeD:Fs:={L:=[2]}
theorem Tryz.aeE:aQ aeD Tryz.f100 2=true:=by kernel_rfl
def Tryz.aeF:Fs:={L:=[3],LL:=[7,11,15,24,29,37,43,49],cr:=[(1,[1,2,0,3,4,5,7,9,6,10,8,11,12,13,14,15,16,17,18,21,23,19,20,24,22,25,26,27,28,29,30,31,32,33,34,35,36,37,38,39,40,41,42,43,44,45,46,47,48])]}
theorem Tryz.aeG:aQ aeF Tryz.f101 3=true:=by kernel_rfl
def Tryz.aeH:Fs:={L:=[2]}
theorem Tryz.aeI:aQ aeH Tryz.f102 2=true:=by kernel_rfl
def Tryz.aeJ:Fs:={L:=[6]}
theorem Tryz.aeK:aQ aeJ Tryz.f103 2=true:=by kernel_rfl
def Tryz.aeL:Fs:={}
theorem Tryz.aeM:aQ aeL Tryz.f104 1=true:=by kernel_rfl
def Tryz.aeN:Fs:={}
theorem Tryz.aeO:aQ aeN Tryz.f105 1=true:=by kernel_rfl
def Tryz.aeP:Fs:={}
theorem Tryz.aeQ:aQ aeP Tryz.f106 1=true:=by kernel_rfl
def Tryz.aeR:Fs:={}
theorem Tryz.aeS:aQ aeR Tryz.f107 1=true:=by kernel_rfl
def Tryz.aeT:Fs:={}
theorem Tryz.aeU:aQ aeT Tryz.f108 1=true:=by kernel_rfl
def Tryz.aeV:Fs:={}
theorem Tryz.aeW:aQ aeV Tryz.f109 2=true:=by kernel_rfl
def Tryz.aeX:Fs:={}
theorem Tryz.aeY:aQ aeX Tryz.f110 1=true:=by kernel_rfl
def Tryz.aem:Fs:={L:=[6]}
theorem Tryz.aej:aQ aem Tryz.f111 2=true:=by kernel_rfl
def Tryz.aeZ:Fs:={L:=[1]}
theorem Tryz.ae0:aQ aeZ Tryz.f112 1=true:=by kernel_rfl
def Tryz.ae1:Fs:={}
theorem Tryz.ae2:aQ ae1 Tryz.f113 3=true:=by kernel_rfl
def Tryz.ae3:Fs:={L:=[3]}
theorem Tryz.ae4:aQ ae3 Tryz.f114 3=true:=by kernel_rfl
def Tryz.ae5:Fs:={L:=[3],LL:=[19,23,27],cr:=[(3,[0,1,2,3,4,5,8,9,6,7,10,11,12,13,14,15])]}
theorem Tryz.ae6:aQ ae5 Tryz.f115 2=true:=by kernel_rfl
def Tryz.ae7:Fs:={}
theorem Tryz.ae8:aQ ae7 Tryz.f116 2=true:=by kernel_rfl
def Tryz.ae9:Fs:={L:=[6]}
theorem Tryz.afa:aQ ae9 Tryz.f117 2=true:=by kernel_rfl
def Tryz.afb:Fs:={}
theorem Tryz.afc:aQ afb Tryz.f118 2=true:=by kernel_rfl
def Tryz.afd:Fs:={L:=[1]}
theorem Tryz.afe:aQ afd Tryz.f119 1=true:=by kernel_rfl
def Tryz.aff:Fs:={L:=[3,4,7,8],LL:=[16,18,23,38,40,42,52],cr:=[(2,[0,2,7,11,1,3,4,5,8,6,9,10,12]),(6,[0,2,4,6,7,14,16,1,3,5,8,9,15,17,18,10,11,12,13,19,20,21])]}
theorem Tryz.afg:aQ aff Tryz.f122 3=true:=by kernel_rfl
def Tryz.G23:Fs:={L:=[2,3,5],LL:=[17,18],trees:=[(5,(.one 2 (.one 0 (.alt 1 (.one 3 Q_) (.alt 3 (.one 1 Q_) .fO)))))],M:=[38]}
theorem Tryz.afh:aQ G23 Tryz.f23 1=true:=by kernel_rfl
def Tryz.G49:Fs:={L:=[2,3,4,5,47,92,100,105,126],LL:=[9,22,23,36,38,69,79,82,89,99,104,115,117,123,146,152,157,158],cr:=[(2,[1,4,0,2,3,5]),(16,[0,2,3,1,4,5,6,7,8]),(20,[0,2,3,1,4,5,6,7,8,9,10]),(8,[0,2,1,3,4,5,6,7,8,9,10])],trees:=[(4,M2),(18,(.one 0 (.one 2 (.one 3 (.one 5 (.one 9 (.one 10 (.one 1 (.one 4 (.one 6 (.one 7 (.one 11 (.one 12 (.alt 8 (.one 13 (.one 14 P_)) (.alt 13 (.one 14 (.one 8 P_)) .fO))))))))))))))),(23,(.one 0 (.one 2 (.one 7 (.one 8 (.one 1 (.one 3 (.one 4 (.one 5 (.one 9 (.one 10 (.alt 6 (.one 11 (.one 12 PQ)) (.alt 11 (.one 12 (.one 6 PQ)) .fO))))))))))))),(26,(.one 0 (.one 5 (.one 6 (.one 1 (.one 2 (.one 3 (.one 7 (.one 8 (.one 9 (.alt 4 (.one 10 (.one 11 (.one 12 .nil))) (.alt 10 (.one 4 (.one 11 (.one 12 .nil))) .fO)))))))))))),(27,M2)],M:=[36,38,96]}
theorem Tryz.afi:aQ G49 Tryz.f49 1=true:=by kernel_rfl
set_option maxRecDepth 100000
set_option maxHeartbeats 4000000
theorem eE.spot {α:Type} {R:Heap->List Value->α->List Nat->Prop} (hR:Kept R) {sz:Nat} {h:Heap} {v:Value} {l:List α} {B:List Nat} (ho:eE R sz h v l B) (nd:Nd B) {k:Nat} (hk:k < l.length) :
  ∃ b c pre x post t C,v=.slice (some ⟨b,0,none⟩) l.length c/\l.length<=c/\h b=some (.cells (pre++x++post).toArray t (0,0))/\pre.length=k*sz/\x.length=sz/\R h x l[k] C/\b∈B/\b ∉ C/\(∀ y∈C,y∈B)/\Nd C /\
  ∀ h' x' a' C',x'.length=sz->h' b=some (.cells (pre++x'++post).toArray t (0,0))->R h' x' a' C'->(∀ y∈B,y≠b->y ∉ C->h' y=h y)->∃ B',eE R sz h' v (l.set k a') B':=by
 obtain⟨xs,B0,B1,⟨hx,ho⟩,hr,rfl⟩:=ho;have hlen:=hr.len;rcases ho with ⟨rfl,rfl,_⟩|⟨b,c,rest,t,rfl,gG,U,uo,rfl⟩
 ·simp at hlen;omega
 have el:l=l.take k++l[k]::l.drop (k+1):=by rw[<-List.drop_eq_getElem_cons hk,List.take_append_drop]
 have Q6:=hr;rw[el]at Q6;obtain⟨ys,zs,A,D,rfl,rfl,r1,r2⟩:=Rows.split Q6;have LG:ys.length=k:=by rw[r1.len,List.length_take];omega
 cases r2 with
 | @cons x a C zs l2 ab1 q1 q2 =>
 have sP:(ys++x::zs).flatten++rest=ys.flatten++x++(zs.flatten++rest):=by simp
 have xj:x.length=sz:=hx x (by simp);have hyl:ys.flatten.length=k*sz:=by rw[bQ (λy hy=>hx y (by simp[hy])),LG]
 have O6:∀ y∈C,y ∉ A/\y ∉ ab1/\y≠b:=λy hy=>by
  have:=nd y;have h1:=X_ hy;simp only[List.count_append,List.count_cons,List.count_nil]at this;refine⟨λh=>?_,λh=>?_,λh=>?_⟩
  ·have:=X_ h;omega
  ·have:=X_ h;omega
  ·subst h;simp at this;omega
 have ndb:∀ y,y∈A\/y∈ab1->y≠b:=λy hy e=>by
  subst e;have:=nd y;simp only[List.count_append,List.count_cons,List.count_nil]at this;simp at this;rcases hy with hy|hy<;>have:=X_ hy<;>omega
 refine⟨b,c,ys.flatten,x,zs.flatten++rest,t,C,by rw[hlen],by omega,by rw[U,sP],hyl,xj,q1,by simp,λhm=>(O6 b hm).2.2 rfl,λy hy=>by simp[hy],λy=>?_,λh' x' a' C' xY bz hR' Ef=>?_⟩
 ·have:=nd y;simp only[List.count_append]at this;omega
 ·have aek:∀ E:List Nat,(∀ y∈E,y∈A\/y∈ab1)->cC h h' E:=λE hE y hy o ho=>by
   rw[Ef y (by rcases hE y hy with h|h<;>simp[h]) (ndb y (hE y hy)) (λhc=>by rcases hE y hy with h|h;exact(O6 y hc).1 h;exact(O6 y hc).2.1 h)];exact ho
  have hl2:(x'::zs).length=(x::zs).length:=by simp
  refine⟨[b]++(A++(C'++ab1)),ys++x'::zs,[b],A++(C'++ab1),⟨λy hy=>?_,.inr ⟨b,c,rest,t,by simp,by simpa using gG,by rw[bz];simp,?_,rfl⟩⟩,?_,rfl⟩
  ·rcases List.mem_append.1 hy with hy|hy
   ·exact hx y (by simp[hy])
   ·rcases List.mem_cons.1 hy with rfl|hy
    ·exact xY
    ·exact hx y (by simp[hy])
  ·rw[<-uo];simp[xY,xj]
  ·have e2:l.set k a'=l.take k++a'::l.drop (k+1):=by rw[List.set_eq_take_append_cons_drop,if_pos hk]
   rw[e2];exact(r1.aG hR (aek A λy hy=>.inl hy)).app (.cons hR' (q2.aG hR (aek ab1 λy hy=>.inr hy)))
theorem cn.spot {sz:Nat} {h:Heap} {v:Value} {xs:List (List Value)} {B:List Nat} (ho:cn sz h v xs B) (hk:0 < xs.length) :
  ∃ b c post t,v=.slice (some ⟨b,0,none⟩) xs.length c/\B=[b]/\h b=some (.cells ([]++xs[0]++post).toArray t (0,0))/\xs[0].length=sz /\
  ∀ h' x',x'.length=sz->h' b=some (.cells ([]++x'++post).toArray t (0,0))->cn sz h' v (xs.set 0 x') [b]:=by
 obtain⟨hx,ho⟩:=ho;rcases ho with ⟨rfl,rfl,_⟩|⟨b,c,rest,t,rfl,gG,U,uo,rfl⟩
 ·simp at hk
 ·cases xs with
  | nil=>simp at hk
  | cons x xs =>
   have xj:x.length=sz:=hx x (by simp);refine⟨b,c,xs.flatten++rest,t,rfl,rfl,by rw[U];simp,xj,λh' x' hl bz=>⟨λy hy=>?_,.inr ⟨b,c,rest,t,by simp,by simpa using gG,by rw[bz];simp,by rw[<-uo];simp[hl,xj],rfl⟩⟩⟩;simp only[List.set_cons_zero,List.mem_cons]at hy;rcases hy with rfl|hy
   ·exact hl
   ·exact hx y (by simp[hy])
structure Sml (M:bZ):Prop where
 objs:M.objs.length<=100000
 ag:M.ag.length<=100000
 said:M.said.length<=100000
 ob:∀ o∈M.objs,o.bE.length<=100000
 fr:∀ f∈M.ag,f.locals.length<=100000/\f.stack.length<=100000
theorem Sml.small {M:bZ} (h:Sml M):Small M:=⟨by have:=h.objs;omega,by have:=h.ag;omega,by have:=h.said;omega,λo ho=>by have:=h.ob o ho;omega,λf hf=>by have:=h.fr f hf;omega⟩
theorem zC.sml {u:aU} (hT:eC u) {M:bZ} (h:zC u M):M.objs.length<=1000/\M.ag.length<=1000/\M.said.length<=1000/\(∀ o∈M.objs,o.bE.length<=1000)/\∀ f∈M.ag,f.locals.length<=1000/\f.stack.length<=1000:=by
 refine⟨by have:=h.len;omega,by have:=h.nf;omega,by have:=h.pU;omega,λo ho=>?_,λf hf=>?_⟩
 ·rcases(h.objs o ho).2 with ⟨_,h2⟩|⟨_,h2,h3⟩
  ·omega
  ·have:=fH hT.1 h2;omega
 ·have hF:=h.jy f hf;have:=(hT.br hF.1).1.2.2.2.2.1;have:=hF.2.2.1;have:=hF.2.2.2.1;omega
theorem Sml.same {M M':bZ} (h:Sml M) (h1:M'.objs=M.objs) (h2:M'.ag=M.ag) (h3:M'.said=M.said):Sml M':=⟨by rw[h1];exact h.objs,by rw[h2];exact h.ag,by rw[h3];exact h.said,by rw[h1];exact h.ob,by rw[h2];exact h.fr⟩
def Lit (M:bZ):Prop:=M.objs.length<=1000/\M.ag.length<=1000/\M.said.length<=1000/\(∀ o∈M.objs,o.bE.length<=1000)/\∀ f∈M.ag,(f.locals.length<=1000/\f.stack.length<=1000)/\0<=f.pc/\f.pc<=1000
theorem Lit.Wq {M:bZ} (h:Lit M):Sml M:=⟨by have:=h.1;omega,by have:=h.2.1;omega,by have:=h.2.2.1;omega,λo ho=>by have:=h.2.2.2.1 o ho;omega,λf hf=>by have:=h.2.2.2.2 f hf;omega⟩
theorem yJ.small {u:aU} {x:Int} {R:bZ} (h:yJ u x R):Lit R:=by
 by_cases hP:wW u x
 ·rw[h.1 hP];have hI:=Fe hP.1 x.toNat (by have:=hP.2;omega);obtain⟨a,b,c,d,e⟩:=hI.ok.sml hP.1;refine⟨a,b,c,d,λf hf=>⟨e f hf,?_⟩⟩;have hF:=hI.ok.jy f hf;have:=hF.2.1;have:=(hP.1.br hF.1).2.1.2.1;omega
 ·rw[h.2 hP];simp[Lit,mL]
def UnM (g:Heap) (v:Value):Prop:=∃ us u mc M B,v=.tuple #[.agg ⟨us⟩,.agg ⟨mc⟩]/\dL g us u/\gJ g mc M B/\Sml M
def ab5 (g2:Heap) (bb:Nat) (g:Heap) (mc:List Value):Prop:=g2.le g/\g bb=none/\∃ M B,gJ g mc M B/\Sml M
theorem ab5.fin {g g2 g9:Heap} {bb:Nat} {vb:Value} {p q:Int} {us mc:List Value} {u:aU} (h:ab5 g2 bb g9 mc) (hg:g.le g2) (hu:dL g2 us u) (h1:p<=q) (h2:q<=p+12000):∃ g' q',cN g9 bb vb q=cN g' bb vb q'/\g.le g'/\g' bb=none/\p<=q'/\q'<=p+12000/\UnM g' (.tuple #[.agg ⟨us⟩,.agg ⟨mc⟩]):=by
 obtain⟨l,f,M,B,o,s⟩:=h;exact⟨_,_,rfl,ww hg l,f,h1,h2,us,u,mc,M,B,rfl,hu.le l,o,s⟩
structure ab3 (g2 g3:Heap) (bb:Nat) (R:bZ) (po:Option Addr) (co:Nat) (pf:Option Addr) (cf:Nat) (pw:Option Addr) (cw:Nat) (B1 B2 B3:List Nat):Prop where
 l3:g2.le g3
 free:g3 bb=none
 o1:eE lu 2 g3 (.slice po R.objs.length co) R.objs B1
 o2:eE oY 4 g3 (.slice pf R.ag.length cf) R.ag B2
 o3:dV g3 (.slice pw R.said.length cw) R.said B3
 nd:Nd (B1++B2++B3)
 fr:∀ b∈B1++B2++B3,g2 b=none
 lit:Lit R
section
variable {g2 g3:Heap} {bb:Nat} {R:bZ} {po pf pw:Option Addr} {co cf cw:Nat} {B1 B2 B3:List Nat}
theorem ab3.sep (m:ab3 g2 g3 bb R po co pf cf pw cw B1 B2 B3):(∀ y∈B1,y ∉ B2/\y ∉ B3)/\(∀ y∈B2,y ∉ B1/\y ∉ B3)/\∀ y∈B3,y ∉ B1/\y ∉ B2:=by
 refine⟨λy hy=>?_,λy hy=>?_,λy hy=>?_⟩;all_goals
  have:=m.nd y;have h1:=X_ hy;simp only[List.count_append]at this;exact⟨λh=>by have:=X_ h;omega,λh=>by have:=X_ h;omega⟩
theorem ab3.nd1 (m:ab3 g2 g3 bb R po co pf cf pw cw B1 B2 B3):Nd B1:=λa=>by have:=m.nd a;simp only[List.count_append]at this;omega
theorem ab3.nd2 (m:ab3 g2 g3 bb R po co pf cf pw cw B1 B2 B3):Nd B2:=λa=>by have:=m.nd a;simp only[List.count_append]at this;omega
theorem ab3.i1 (m:ab3 g2 g3 bb R po co pf cf pw cw B1 B2 B3):∀ b∈B1,g2 b=none/\∃ o,g3 b=some o:=λb U=>⟨m.fr b (by simp[U]),m.o1.in xX b U⟩
theorem ab3.i2 (m:ab3 g2 g3 bb R po co pf cf pw cw B1 B2 B3):∀ b∈B2,g2 b=none/\∃ o,g3 b=some o:=λb U=>⟨m.fr b (by simp[U]),m.o2.in VT b U⟩
theorem ab3.i3 (m:ab3 g2 g3 bb R po co pf cf pw cw B1 B2 B3):∀ b∈B3,g2 b=none/\∃ o,g3 b=some o:=λb U=>⟨m.fr b (by simp[U]),m.o3.in b U⟩
theorem keq {g3 g9:Heap} {A:List Nat} (hA:∀ y∈A,g9 y=g3 y):cC g3 g9 A:=λy hy o ho=>by rw[hA y hy];exact ho
abbrev mcl (R:bZ) (po:Option Addr) (co:Nat) (pf:Option Addr) (cf:Nat) (vs:Value) (st fi:Int) (o:Vl):List Value:=[.slice po R.objs.length co,.slice pf R.ag.length cf,vs,.int .i64 st,.int .i64 fi,.bool o.ref,.int .i64 o.n]
theorem ab3.same (m:ab3 g2 g3 bb R po co pf cf pw cw B1 B2 B3) (st fi:Int) (o:Vl):ab5 g2 bb g3 (mcl R po co pf cf (.slice pw R.said.length cw) st fi o) :=
 ⟨m.l3,m.free,{R with steps:=st,fin:=fi,out:=o},_,⟨_,_,_,B1,B2,B3,rfl,m.o1,m.o2,m.o3,rfl⟩,m.lit.Wq.same rfl rfl rfl⟩
theorem ab3.obj {K:Prop} (m:ab3 g2 g3 bb R po co pf cf pw cw B1 B2 B3) {k:Nat} (hk:k < R.objs.length)
  (hK:∀(b:Nat) (c:Int) (pv:Option Addr) (cv:Nat) (pre post:List Value) (t:TypeId) (C:List Nat) (l:List Vl),po=some ⟨b,0,none⟩->g3 b=some (.cells (pre++[Value.int .i64 c,.slice pv (l.map bR).length cv]++post).toArray t (0,0))->pre.length=k*2->cq g3 (.slice pv (l.map bR).length cv) l C->(∀ z∈C,g2 z=none)->b ∉ C->l.length<=1000 ->
   (∀(g5:Heap) (c':Int) (v:Value) (l':List Vl) (C':List Nat),g2.le g5->g5 bb=none->cq g5 v l' C'->l'.length<=1001->(∀ z,z ∉ C->g3 z≠none->g5 z=g3 z)->(∀ z∈C',z∈C\/g3 z=none) ->
    g5 b=some (.cells (pre++[Value.int .i64 c,.slice pv (l.map bR).length cv]++post).toArray t (0,0))/\ab5 g2 bb (g5.set b (.cells (pre++[Value.int .i64 c',v]++post).toArray t (0,0))) (mcl R po co pf cf (.slice pw R.said.length cw) R.steps R.fin R.out))->K):K:=by
 obtain⟨b,c,pre,w0,post,t,C,hv,hc,U,fV,xj,hR,O3,hbC,hCB,ndC,put⟩:=m.o1.spot jD m.nd1 hk;simp only[Value.slice.injEq]at hv;obtain⟨rfl,_,rfl⟩:=hv;obtain⟨w,rfl,ow⟩:=hR;obtain⟨pv,cv,rfl,Ou⟩:=cn.form ow;obtain⟨s1,s2,s3⟩:=m.sep;refine hK b _ pv cv pre post t C _ rfl U fV ow (λz hz=>(m.i1 z (hCB z hz)).1) hbC (m.lit.2.2.2.1 _ (w_ hk)) λg5 c' v l' C' l5 f5 ow5 rM k5 k6=>?_;have qw:g5 b=g3 b:=k5 b hbC (by rw[U];simp);refine⟨by rw[qw];exact U,?_⟩;obtain⟨g9,hg9⟩:∃ g9,g9=g5.set b (.cells (pre++[Value.int .i64 c',v]++post).toArray t (0,0)):=⟨_,rfl⟩
 rw[<-hg9];have e9:∀ z,z≠b->g9 z=g5 z:=λz hz=>by rw[hg9];simp[Heap.set,hz]
 have cD:bb≠b:=by rintro rfl;rw[qw,U]at f5;cases f5
 have le9:g2.le g9:=by rw[hg9];exact Heap.aM l5 (m.i1 b O3).1
 have nbB:∀ z∈C',z≠b:=λz hz e=>by
  rcases k6 z hz with h|h
  ·exact hbC (e ▸ h)
  ·rw[e,U]at h;cases h
 have LI:∀ z,z≠b->z ∉ C->(∃ o,g3 z=some o)->g9 z=g3 z:=λz h1 h2 ⟨o,h3⟩=>by rw[e9 z h1,k5 z h2 (by rw[h3];simp)]
 obtain⟨jf,o1'⟩:=put g9 [.int .i64 c',v] ⟨c',l'⟩ C' rfl (by rw[hg9];exact cZ _ _ _) ⟨_,rfl,ow5.aG λz hz o ho=>by rw[e9 z (nbB z hz)];exact ho⟩ (λz hz h1 h2=>LI z h1 h2 (m.i1 z hz).2);refine⟨le9,by rw[e9 bb cD];exact f5,{R with objs:=R.objs.set k ⟨c',l'⟩},_,⟨_,_,_,jf,B2,B3,by simp,o1',m.o2.aG qz (keq λz hz=>LI z (λe=>(s2 z hz).1 (e ▸ O3)) (λe=>(s2 z hz).1 (hCB z e)) (m.i2 z hz).2),m.o3.aG (keq λz hz=>LI z (λe=>(s3 z hz).1 (e ▸ O3)) (λe=>(s3 z hz).1 (hCB z e)) (m.i3 z hz).2),rfl⟩,?_⟩;have hs:=m.lit;refine⟨by have:=hs.1;simp;omega,hs.Wq.ag,hs.Wq.said,λo ho=>?_,hs.Wq.fr⟩;rcases List.mem_or_eq_of_mem_set ho with h|rfl
 ·exact hs.Wq.ob o h
 ·simp only;omega
theorem ab3.say (m:ab3 g2 g3 bb R po co pf cf pw cw B1 B2 B3) {g5:Heap} {v:Value} {l:List Int} {B:List Nat} (l5:g2.le g5) (f5:g5 bb=none) (o:dV g5 v l B) (hl:l.length<=1001) (k5:∀ z,z ∉ B3->g3 z≠none->g5 z=g3 z):ab5 g2 bb g5 (mcl R po co pf cf v R.steps R.fin R.out):=by
 obtain⟨s1,s2,s3⟩:=m.sep;have LI:∀ z,z ∉ B3->(∃ o,g3 z=some o)->g5 z=g3 z:=λz h2 ⟨o,h3⟩=>k5 z h2 (by rw[h3];simp);exact⟨l5,f5,{R with said:=l},_,⟨_,_,_,B1,B2,B,rfl,m.o1.aG jD (keq λz hz=>LI z (s1 z hz).2 (m.i1 z hz).2),m.o2.aG qz (keq λz hz=>LI z (s2 z hz).2 (m.i2 z hz).2),o,rfl⟩,⟨m.lit.Wq.objs,m.lit.Wq.ag,by simp only;omega,m.lit.Wq.ob,m.lit.Wq.fr⟩⟩
theorem ab3.jy {K:Prop} (m:ab3 g2 g3 bb R po co pf cf pw cw B1 B2 B3) (hk:0 < R.ag.length)
  (hK:∀(b:Nat) (mt pc:Int) (v1:Value) (pv:Option Addr) (cv:Nat) (post:List Value) (t:TypeId) (C1 C2:List Nat) (l1 l2:List Vl),pf=some ⟨b,0,none⟩->g3 b=some (.cells ([]++[Value.int .i64 mt,.int .i64 pc,v1,.slice pv (l2.map bR).length cv]++post).toArray t (0,0))->cq g3 v1 l1 C1->cq g3 (.slice pv (l2.map bR).length cv) l2 C2->(∀ z∈C1++C2,g2 z=none)->b ∉ C1++C2->Nd (C1++C2)->l1.length<=1000->l2.length<=1000->(0<=pc/\pc<=1000) ->
   (∀(g9:Heap) (Jt:Int) (w1 w2:Value) (l1' l2':List Vl) (C1' C2':List Nat),g2.le g9->g9 bb=none->g9 b=some (.cells ([]++[Value.int .i64 mt,.int .i64 Jt,w1,w2]++post).toArray t (0,0))->cq g9 w1 l1' C1'->cq g9 w2 l2' C2'->l1'.length<=1001->l2'.length<=1001->(∀ z,z≠b->z ∉ C1++C2->g3 z≠none->g9 z=g3 z) ->
    ab5 g2 bb g9 (mcl R po co pf cf (.slice pw R.said.length cw) R.steps R.fin R.out))->K):K:=by
 obtain⟨b,c,pre,w0,post,t,C,hv,hc,U,fV,xj,hR,O3,hbC,hCB,ndC,put⟩:=m.o2.spot qz m.nd2 hk;simp only[Value.slice.injEq]at hv;obtain⟨rfl,_,rfl⟩:=hv;obtain⟨w1,w2,C1,C2,rfl,ow1,ow2,rfl⟩:=hR;obtain⟨pv,cv,rfl,Ou⟩:=cn.form ow2;obtain⟨s1,s2,s3⟩:=m.sep;obtain rfl:pre=[]:=List.eq_nil_of_length_eq_zero (by omega);have hs:=m.lit;have lf:=hs.2.2.2.2 _ (w_ hk);refine hK b _ _ w1 pv cv post t C1 C2 _ _ rfl U ow1 ow2 (λz hz=>(m.i2 z (hCB z hz)).1) hbC ndC lf.1.1 lf.1.2 lf.2 λg9 Jt w1 w2 l1' l2' C1' C2' l9 f9 h9 o1' o2' n1 n2 k9=>?_;have LI:∀ z,z≠b->z ∉ C1++C2->(∃ o,g3 z=some o)->g9 z=g3 z:=λz h1 h2 ⟨o,h3⟩=>k9 z h1 h2 (by rw[h3];simp);obtain⟨gO,o2'⟩:=put g9 [.int .i64 R.ag[0].ah,.int .i64 Jt,w1,w2] ⟨R.ag[0].ah,Jt,l1',l2'⟩ (C1'++C2') rfl h9 ⟨w1,w2,C1',C2',rfl,o1',o2',rfl⟩ (λz hz h1 h2=>LI z h1 h2 (m.i2 z hz).2);refine⟨l9,f9,{R with ag:=R.ag.set 0 ⟨R.ag[0].ah,Jt,l1',l2'⟩},_,⟨_,_,_,B1,gO,B3,by simp,m.o1.aG jD (keq λz hz=>LI z (λe=>(s1 z hz).1 (e ▸ O3)) (λe=>(s1 z hz).1 (hCB z e)) (m.i1 z hz).2),o2',m.o3.aG (keq λz hz=>LI z (λe=>(s3 z hz).2 (e ▸ O3)) (λe=>(s3 z hz).2 (hCB z e)) (m.i3 z hz).2),rfl⟩,?_⟩;refine⟨hs.Wq.objs,by have:=hs.2.1;simp;omega,hs.Wq.said,hs.Wq.ob,λo ho=>?_⟩;rcases List.mem_or_eq_of_mem_set ho with h|rfl
 ·exact hs.Wq.fr o h
 ·simp only;omega
theorem ab3.frf (m:ab3 g2 g3 bb R po co pf cf pw cw B1 B2 B3) (hk:0 < R.ag.length) {b:Nat} (Io:pf=some ⟨b,0,none⟩):g2 b=none:=by
 obtain⟨b',_,_,_,_,_,_,hv,_,_,_,_,_,hB',_⟩:=m.o2.spot qz m.nd2 hk;rw[Io]at hv;simp only[Value.slice.injEq,Option.some.injEq,Addr.mk.injEq,and_true]at hv;rw[hv.1];exact(m.i2 _ hB').1
theorem aen {K:Prop} {vb:Value} {b:Nat} {mt pc:Int} {pv1 pv:Option Addr} {cv1 cv:Nat} {post:List Value} {t:TypeId} {C1 C2:List Nat} {la lb:List Vl} (m:ab3 g2 g3 bb R po co pf cf pw cw B1 B2 B3) (zB:0 < la.length)
  (U:g3 b=some (.cells ([]++[Value.int .i64 mt,.int .i64 pc,.slice pv1 (la.map bR).length cv1,.slice pv (lb.map bR).length cv]++post).toArray t (0,0))) (ow1:cq g3 (.slice pv1 (la.map bR).length cv1) la C1) (ow2:cq g3 (.slice pv (lb.map bR).length cv) lb C2) (hC:∀ z∈C1++C2,g2 z=none) (hbC:b ∉ C1++C2) (ndC:Nd (C1++C2)) (ha:la.length<=1000) (eX:lb.length<=1000)
  (put:∀(g9:Heap) (Jt:Int) (w1 w2:Value) (l1' l2':List Vl) (C1' C2':List Nat),g2.le g9->g9 bb=none->g9 b=some (.cells ([]++[Value.int .i64 mt,.int .i64 Jt,w1,w2]++post).toArray t (0,0))->cq g9 w1 l1' C1'->cq g9 w2 l2' C2'->l1'.length<=1001->l2'.length<=1001->(∀ z,z≠b->z ∉ C1++C2->g3 z≠none->g9 z=g3 z)->ab5 g2 bb g9 (mcl R po co pf cf (.slice pw R.said.length cw) R.steps R.fin R.out))
  (hK:∀(b1:Nat) (X6:List Value) (t1:TypeId),pv1=some ⟨b1,0,none⟩->g3 b1=some (.cells ([]++bR la[0]++X6).toArray t1 (0,0))->(∀ y,ab5 g2 bb (g3.set b1 (.cells ([]++bR y++X6).toArray t1 (0,0))) (mcl R po co pf cf (.slice pw R.said.length cw) R.steps R.fin R.out))->K):K:=by
 obtain⟨b1,c9,X6,t1,hv1,rfl,gI,afL,HL⟩:=ow1.spot (by simpa using zB);simp only[Value.slice.injEq]at hv1;obtain⟨rfl,_,rfl⟩:=hv1;have afH:b≠b1:=λe=>hbC (by simp[e]);have n12:b1 ∉ C2:=λh=>by
  have:=ndC b1;have h2:=X_ h;simp only[List.count_append,List.count_cons,List.count_nil,beq_self_eq_true,if_true]at this;omega
 refine hK b1 X6 t1 rfl (by simpa using gI) λy=>?_;have e9:∀ z,z≠b1->(g3.set b1 (.cells ([]++bR y++X6).toArray t1 (0,0))) z=g3 z:=λz hz=>by simp[Heap.set,hz]
 have cD:bb≠b1:=by rintro rfl;have:=m.free;rw[gI]at this;cases this
 have afj:=HL (g3.set b1 (.cells ([]++bR y++X6).toArray t1 (0,0))) (bR y) rfl (cZ _ _ _);rw[<-List.map_set]at afj;exact put _ pc _ _ (la.set 0 y) lb [b1] C2 (Heap.aM m.l3 (hC b1 (by simp))) (by rw[e9 bb cD];exact m.free) (by rw[e9 b afH];exact U) afj (ow2.aG (keq λz hz=>e9 z λe=>n12 (e ▸ hz))) (by simp;omega) (by omega) λz h1 h2 _=>e9 z λe=>h2 (by simp[e])
end
theorem adh {g2 g3:Heap} {bb:Nat} {vb:Value} {q0 q:Int} {pv:Option Addr} {cv:Nat} {l:List Vl} {C:List Nat} {y:Vl} {el:TypeId} {K:Value->Heap->Prop} (r2:bD g2 bb vb q0) (rq:bD g3 bb vb q) (l3:g2.le g3) (ow:cq g3 (.slice pv (l.map bR).length cv) l C) (fr:∀ z∈C,g2 z=none) (hl:l.length<=1000)
  (hK:∀ p' c' g5 B',g2.le g5->bD g5 bb vb q->cq g5 (.slice p' (l++[y]).length c') (l++[y]) B'->(∀ b,b ∉ C->g3 b≠none->g5 b=g3 b)->(∀ b∈B',b∈C\/g3 b=none)->K (.slice p' (l++[y]).length c') (cN g5 bb vb q)):App 16 2 [.bool false,.int .i64 0] el (cN g3 bb vb q) pv (l.map bR).length cv 1 (bR y) K :=
 pK (ys:=[bR y]) r2 rq ow fr l3 (by simp) rfl (by simp[bR]) rfl rfl (by simp;omega) (by simp;omega) λv' g5 B' k1 k2 k3 k4 k5 k6=>by
  have HQ:cq g5 v' (l++[y]) B':=by simpa [cq]using k3
  obtain⟨p',c',rfl,_⟩:=cn.form HQ;rw[List.length_map]at HQ ⊢;exact hK p' c' g5 B' k1 k2 HQ k5 k6
theorem adN {g:Heap} {bb:Nat} {vb:Value} {p:Int} (n:Int) (r:bD g bb vb p) (hp:p<=90000000) (hn:0<=n/\n<=100000) :
  Dr prog 96 [.pointer (some ⟨bb,0,none⟩),.int .i64 n] g bb vb p 3 λg' v=>g'=g/\∃ x:Vl,v=.agg ⟨bR x⟩:=by
 refine bS au func96 F96 afE rfl ?_;conv=>whnf
 refine bF r (by omega) (λx x0 x1 x2 r1=>?_);conv=>whnf
 apply ax<;>intro _;all_goals conv=>whnf
 ·refine iC r1 (HP r1 (by omega)) (λv g2 q l2 r2 q0 q1 hA=>?_);obtain⟨rfl,y,rfl,_,_⟩:=hA;conv=>whnf
  exact⟨_,_,rfl,x_ _,r2.free,by omega,by omega,rfl,⟨false,y⟩,rfl⟩
 ·refine aj ?_;conv=>whnf
  refine bF r1 (by omega) (λy y0 y1 y2 r2=>?_);conv=>whnf
  exact⟨_,_,rfl,x_ _,r2.free,by omega,by omega,rfl,⟨true,y⟩,rfl⟩
theorem adE {g:Heap} {bb:Nat} {vb:Value} {p:Int} (r:bD g bb vb p) (hp:p<=20000000) (hB:Pa g) :
  Dr prog 49 [.pointer (some ⟨bb,0,none⟩)] g bb vb p 12000 UnM:=by
 refine bS au func49 G49 afi rfl ?_;conv=>whnf
 refine iC r (Ia r (by omega) hB) (λv g1 q1 l1 r1 YT YU hA=>?_);refine Ls.elim hA λp1 n1 c1 p2 n2 c2 u hv hu=>?_;subst hv;conv=>whnf
 refine iC r1 (zg r1 (by omega)) (λv g2 q2 l2 r2 q20 q21 hA=>?_);obtain⟨rfl,x,rfl,x0,x1⟩:=hA;obtain⟨R,xo⟩:=Dt u x;conv=>whnf
 refine O2 r2 (R:=λv g'=>∃ mc B,v=.agg ⟨mc⟩/\gJ g' mc R B/\Nd B/\∀ b∈B,g2 b=none) (mM _ u x g2 hu R xo) (λv g3 l3 r3 hh=>?_);obtain⟨mc,B,rfl,own,nd,fr⟩:=hh;obtain⟨po,co,pf,cf,pw,cw,rfl⟩:=own.kr;unfold kr aB at own ⊢;obtain⟨vo,vf,vs,B1,B2,B3,e,o1,o2,o3,rfl⟩:=own;simp only[List.cons.injEq,and_true]at e;obtain⟨rfl,rfl,rfl⟩:=e;have m:ab3 g2 g3 bb R po co pf cf pw cw B1 B2 B3:=⟨l3,r3.free,o1,o2,o3,nd,fr,xo.small⟩
 have u0:=m.lit.1;clear nd fr hA;conv=>whnf
 refine bF r3 (by omega) (λy y0 y1 y2 r4=>?_);clear y1 y2;conv=>whnf
 repeat' ((first|apply Y_|exact trivial|apply ax<;>intro _|apply aV<;>intro _|exact(m.same R.steps R.fin R.out).fin l1 hu (by omega) (by omega))<;>conv=>whnf)
 refine bF r4 (by omega) (λk k0 k1 k2 r5=>?_);have OT:k.toNat < R.objs.length:=by omega
 conv=>whnf
 refine bF r5 (by omega) (λz z0 z1 z2 r6=>?_);have hz:z=0\/z=1\/z=2\/z=3\/z=4\/z=5\/z=6\/z=7\/z=8:=by omega
 clear k1 k2 z0 z1 z2;have dv:∀(n:Int) (K:Value->Heap->Prop) (E:List PanicEntry->Heap->Prop),0<=n/\n<=100000->(∀ y q4,bD g3 bb vb q4->q2<=q4->q4<=q2+10->K (.agg #[.bool (Vl.ref y),.int .i64 (Vl.n y)]) (cN g3 bb vb q4))->Go.Vc.Call prog 96 [.pointer (some ⟨bb,0,none⟩),.int .i64 n] (cN g3 bb vb (q2+1+1+1)) K E:=λn K E hn hK =>
  iC r6 (adN n r6 (by omega) hn) λv g4 q4 l4 r7 XI XJ hA=>by
   obtain⟨rfl,y,rfl⟩:=hA;exact hK y q4 r7 (by omega) (by omega)
 rcases hz with rfl|rfl|rfl|rfl|rfl|rfl|rfl|rfl|rfl
 ·conv=>whnf
  refine bF r6 (by omega) (λy y0 y1 y2 r7=>?_);rcases(show y=0\/y=1\/y=2 by omega)with rfl|rfl|rfl;all_goals
   conv=>whnf
   repeat' ((first|refine aq ?_|apply Y_|exact trivial)<;>conv=>whnf)
   all_goals exact(m.same _ R.fin R.out).fin l1 hu (by omega) (by omega)
 ·conv=>whnf
  refine bF r6 (by omega) (λy y0 y1 y2 r7=>?_);conv=>whnf
  repeat' ((first|apply Y_|exact trivial)<;>conv=>whnf)
  all_goals exact(m.same R.steps _ R.out).fin l1 hu (by omega) (by omega)
 ·conv=>whnf
  refine dv _ _ _ (by omega) (λy q4 r7 XI XJ=>?_);conv=>whnf
  repeat' ((first|refine aq ?_|apply Y_|exact trivial)<;>conv=>whnf)
  all_goals exact(m.same R.steps R.fin y).fin l1 hu (by omega) (by omega)
 ·refine m.obj OT λb c pv cv pre post t C l hpo U fV ow hC hbC hl put=>?_;conv=>whnf
  refine bF r6 (by omega) (λy y0 y1 y2 r7=>?_);have hP:=(put g3 (y-3) _ l C m.l3 m.free ow (by omega) (λ_ _ _=>rfl) (λz hz=>.inl hz)).2;conv=>whnf
  repeat' ((first|apply Y_|exact trivial|refine aq ?_|refine aj ?_|refine aO hpo ?_|refine mQ r7.free U (by simp only[W_,List.length_cons,List.length_nil];omega) (nu (i:=0) (by show 0+k.toNat*2+0=_;omega) (by simp)) ?_)<;>conv=>whnf)
  all_goals exact hP.fin l1 hu (by omega) (by omega)
 ·refine m.obj OT λb c pv cv pre post t C l hpo U fV ow hC hbC hl put=>?_;have rv:∀ n,n=0+k.toNat*2+1->rd g3 b n=some _:=λn hn=>bG U (i:=1) (by omega) rfl;conv=>whnf
  repeat' ((first|apply Y_|exact trivial|refine aq ?_|refine aj ?_|refine aO hpo ?_|refine ld (aX (bh r6.free) (rv _ rfl)) ?_|refine dv _ _ _ (by omega) (λy q4 r7 XI XJ=>?_)|(refine adh (y:=y) r2 r7 m.l3 ow hC hl (λp' c' g5 B' k1 k2 k3 k5 k6=>?_);have hP:=put g5 c _ _ B' k1 k2.free k3 (by simp;omega) k5 k6)|refine mQ k2.free hP.1 (by simp only[W_,List.length_cons,List.length_nil];omega) (nu (i:=1) (by show 0+k.toNat*2+1=_;omega) (by simp)) ?_)<;>conv=>whnf)
  all_goals exact hP.2.fin l1 hu (by omega) (by omega)
 ·conv=>whnf
  refine bF r6 (by omega) (λy y0 y1 y2 r7=>?_);rcases(show y=0\/y=1 by omega)with rfl|rfl;all_goals
   conv=>whnf
   repeat' ((first|apply Y_|exact trivial|refine aq ?_|refine xq (k:=[_]) r2 r7 m.o3 (λz hz=>(m.i3 z hz).1) m.l3 rfl (by have:=m.lit.2.2.1;simp;omega) (λp' c' g5 B' k1 k2 k3 _ ev=>?_))<;>conv=>whnf)
   all_goals exact(m.say k1 k2.free k3 (by have:=m.lit.2.2.1;simp;omega) λz h1 h2=>ev.ic z h2 h1).fin l1 hu (by omega) (by omega)
 ·by_cases RQ:0 < R.ag.length
  ·refine m.jy RQ λb mt pc v1 pv cv post t C1 C2 la lb Io U ow1 ow2 hC hbC ndC ha eX D0 put=>?_;have r1:rd g3 b 3=some _:=bG U (i:=3) rfl rfl;have afI:∀ y p' c' g5 B',g2.le g5->bD g5 bb vb 0->cq g5 (.slice p' (lb++[y]).length c') (lb++[y]) B'->(∀ b,b ∉ C2->g3 b≠none->g5 b=g3 b)->(∀ b∈B',b∈C2\/g3 b=none)->g5 b=g3 b/\ab5 g2 bb (g5.set b (.cells ([]++[Value.int .i64 mt,.int .i64 pc,v1,.slice p' (lb++[y]).length c']++post).toArray t (0,0))) (mcl R po co pf cf (.slice pw R.said.length cw) R.steps R.fin R.out):=by
    intro y p' c' g5 B' k1 k2 k3 k5 k6;have afk:b ∉ C2:=λh=>hbC (by simp[h]);have qw:g5 b=g3 b:=k5 b afk (by rw[U];simp);have gA:g2 b=none:=m.frf RQ Io;have e9:∀ z,z≠b->(g5.set b (.cells ([]++[Value.int .i64 mt,.int .i64 pc,v1,.slice p' (lb++[y]).length c']++post).toArray t (0,0))) z=g5 z:=λz hz=>by simp[Heap.set,hz]
    have cD:bb≠b:=by rintro rfl;have:=k2.free;rw[qw,U]at this;cases this
    have nbB:∀ z∈B',z≠b:=λz hz e=>by
     rcases k6 z hz with h|h
     ·exact afk (e ▸ h)
     ·rw[e,U]at h;cases h
    refine⟨qw,put _ pc _ _ la _ C1 B' (Heap.aM k1 gA) (by rw[e9 bb cD];exact k2.free) (cZ _ _ _) (ow1.aG (keq λz hz=>?_)) (k3.aG λz hz o ho=>by rw[e9 z (nbB z hz)];exact ho) (by omega) (by simp;omega) λz h1 h2 h3=>by rw[e9 z h1,k5 z (λh=>h2 (by simp[h])) h3]⟩;have h1:z≠b:=λe=>hbC (by rw[<-e];simp[hz]);rw[e9 z h1,k5 z (λh=>?_) (by obtain⟨o,ho⟩:=ow1.in z hz;rw[ho];simp)];have:=ndC z;have h1:=X_ hz;have h2:=X_ h;simp only[List.count_append]at this;omega
   have hC2:∀ z∈C2,g2 z=none:=λz hz=>hC z (by simp[hz]);conv=>whnf
   refine b8 ?_;conv=>whnf
   repeat' ((first|apply Y_|exact trivial|refine aq ?_|refine aO Io ?_|refine ld (aX (bh r6.free) r1) ?_|refine dv _ _ _ (by omega) (λy q4 r7 XI XJ=>?_)|(refine adh (y:=y) r2 r7 m.l3 ow2 hC2 eX (λp' c' g5 B' k1 k2 k3 k5 k6=>?_);have hP:=afI y p' c' g5 B' k1 ⟨k2.free,k2.bytes,by omega⟩ k3 k5 k6)|refine mQ k2.free (hP.1.trans U) (by simp only[W_,List.length_cons,List.length_nil];omega) (nu (i:=3) rfl (by simp)) ?_)<;>conv=>whnf)
   all_goals exact hP.2.fin l1 hu (by omega) (by omega)
  ·conv=>whnf
   repeat' ((first|apply Y_|exact trivial|refine bL ?_|exact(m.same R.steps R.fin R.out).fin l1 hu (by omega) (by omega))<;>conv=>whnf)
 ·by_cases RQ:0 < R.ag.length
  ·refine m.jy RQ λb mt pc v1 pv cv post t C1 C2 la lb Io U ow1 ow2 hC hbC ndC ha eX D0 put=>?_;obtain⟨pv1,cv1,rfl,_⟩:=cn.form ow1;have r1:rd g3 b 2=some _:=bG U (i:=2) rfl rfl;by_cases zB:0 < la.length
   ·refine aen (vb:=vb) (mt:=mt) (pc:=pc) m zB U ow1 ow2 hC hbC ndC ha eX put λb1 X6 t1 zD gI hF=>?_;conv=>whnf
    refine b8 ?_;conv=>whnf
    repeat' ((first|apply Y_|exact trivial|refine ob (by first|omega|(simp only[List.length_map];omega)) ?_|refine aO Io ?_|refine aO zD ?_|refine aj ?_|refine ld (aX (bh r6.free) r1) ?_|refine fX (by simp only[List.length_map];omega) ?_|refine dv _ _ _ (by omega) (λy q4 r7 XI XJ=>?_)|refine mQ r7.free gI (by simp[bR]) (BO (pre:=[]) (y:=bR y) rfl rfl) ?_)<;>conv=>whnf)
    all_goals exact(hF y).fin l1 hu (by omega) (by omega)
   ·conv=>whnf
    refine b8 ?_;conv=>whnf
    repeat' ((first|apply Y_|exact trivial|refine ob (by first|omega|(simp only[List.length_map];omega)) ?_|refine aO Io ?_|refine ld (aX (bh r6.free) r1) ?_|refine cy (by simp only[List.length_map];omega) ?_|exact(m.same R.steps R.fin R.out).fin l1 hu (by omega) (by omega))<;>conv=>whnf)
  ·conv=>whnf
   repeat' ((first|apply Y_|exact trivial|refine bL ?_|exact(m.same R.steps R.fin R.out).fin l1 hu (by omega) (by omega))<;>conv=>whnf)
 ·by_cases RQ:0 < R.ag.length
  ·refine m.jy RQ λb mt pc v1 pv cv post t C1 C2 la lb Io U ow1 ow2 hC hbC ndC ha eX D0 put=>?_;have r1:rd g3 b 1=some _:=bG U (i:=1) rfl rfl;have cD:bb≠b:=by rintro rfl;have:=r6.free;rw[U]at this;cases this
   have e9:∀ z,z≠b->(g3.set b (.cells ([]++[Value.int .i64 mt,.int .i64 (pc+1),v1,.slice pv (lb.map bR).length cv]++post).toArray t (0,0))) z=g3 z:=λz hz=>by simp[Heap.set,hz]
   have hP:=put (g3.set b (.cells ([]++[Value.int .i64 mt,.int .i64 (pc+1),v1,.slice pv (lb.map bR).length cv]++post).toArray t (0,0))) (pc+1) v1 _ la lb C1 C2 (Heap.aM m.l3 (m.frf RQ Io)) (by rw[e9 bb cD];exact m.free) (cZ _ _ _) (ow1.aG (keq λz hz=>e9 z λe=>hbC (by rw[<-e];simp[hz]))) (ow2.aG (keq λz hz=>e9 z λe=>hbC (by rw[<-e];simp[hz]))) (by omega) (by omega) λz h1 _ _=>e9 z h1;conv=>whnf
   refine b8 ?_;conv=>whnf
   repeat' ((first|apply Y_|exact trivial|refine aq ?_|refine aO Io ?_|refine aj ?_|refine ld (aX (bh r6.free) r1) ?_|refine mQ r6.free U (by simp only[W_,List.length_cons,List.length_nil];omega) (nu (i:=1) rfl (by simp)) ?_)<;>conv=>whnf)
   all_goals exact hP.fin l1 hu (by omega) (by omega)
  ·conv=>whnf
   repeat' ((first|apply Y_|exact trivial|refine bL ?_|exact(m.same R.steps R.fin R.out).fin l1 hu (by omega) (by omega))<;>conv=>whnf)
theorem UnM.elim {g:Heap} {v:Value} {K:Prop} (h:UnM g v) (hk:∀ p n c q m d u po co pf cf pw cw M B,v=.tuple #[.agg #[.slice p n c,.slice q m d],.agg ⟨kr po co pf cf pw cw M⟩]->dL g [.slice p n c,.slice q m d] u->gJ g (kr po co pf cf pw cw M) M B->Sml M->K):K:=by
 obtain⟨us,u,mc,M,B,rfl,h,o,s⟩:=h;obtain⟨cp,cc,q,d,rfl,_⟩:=h.form;obtain⟨po,co,pf,cf,pw,cw,rfl⟩:=o.kr;exact hk _ _ _ _ _ _ _ _ _ _ _ _ _ _ _ rfl h o s
theorem acX (v:Value) (n:Nat) (h:Heap) (hB:Bytes h v n) (hn:n<=1000000000000000) (hy:Pa h) :
  bI prog 23 [v] h λr h'=>h.le h'/\UnM h' r:=by
 refine bS au func23 G23 afh rfl ?_;conv=>whnf
 refine aD (Lt v n h hB hn) ?_;rintro v0 h0 ⟨bb,vb,rfl,rfl,r⟩;conv=>whnf
 refine bF r (by omega) (λx x0 x1 x2 r2=>?_);conv=>whnf
 apply ax<;>intro c0;all_goals conv=>whnf
 ·refine iC r2 (adE r2 (by omega) hy) (λv g3 q3 l3 r3 q30 q31 hA=>?_);refine UnM.elim hA λp1 n1 c1 p2 n2 c2 u po co pf cf pw cw M B hv hu o s=>?_;subst hv;unfold kr aB at o ⊢;conv=>whnf
  exact⟨ww l3 (bh r3.free),_,u,_,M,B,rfl,hu.le (bh r3.free),o.aG (cC.of_le (bh r3.free) _),s⟩
 ·refine iC r2 (FF r2 (by omega) hy) (λv g3 q3 l3 r3 q30 q31 hA=>?_);refine Ls.elim hA λp1 n1 c1 p2 n2 c2 u hv hu=>?_;subst hv;conv=>whnf
  repeat' ((first|exact⟨ww l3 (ww l5 (bh r5.free)),_,u,_,R,B,rfl,hu.le (ww l5 (bh r5.free)),own.aG (cC.of_le (bh r5.free) _),xo.small.Wq⟩|apply Y_|exact trivial|(refine iC r3 (zg r3 (by omega)) (λv g4 q4 l4 r4 XI XJ hA=>?_);obtain⟨rfl,x,rfl,x0,x1⟩:=hA;refine(Dt u x).elim λR xo=>?_)|(refine O2 r4 (R:=λv g'=>∃ mc B,v=.agg ⟨mc⟩/\gJ g' mc R B/\Nd B/\∀ b∈B,g4 b=none) (mM _ u x g4 hu R xo) (λv g5 l5 r5 hh=>?_);obtain⟨mc,B,rfl,own,nd,fr⟩:=hh;obtain⟨_,_,_,_,_,_,rfl⟩:=own.kr;unfold kr aB at own ⊢))<;>conv=>whnf)
open Go.Vc Go.Proofs.Tryz
set_option maxRecDepth 100000
set_option maxHeartbeats 4000000
theorem ad5 {P:Program} {t:TypeId} {f0 f1:Field} {k':IntKind} (a a':Bool) (c c':Int) (h3:P.underlying t=some (.struct #[f0,f1])) (h4:P.stoodInHeld t=false) (rJ:f0.name≠ "_") (D2:f1.name≠ "_") (h5:P.underlying f0.type=some .bool) (h6:P.underlying f1.type=some (.int k'))
  (HO:∀(a:Bool) (c:Int) (w:World),(part f0.type #[.bool a,.int .i64 c] f0.offset).run P w=.ok (.bool a) w) (zD:∀(a:Bool) (c:Int) (w:World),(part f1.type #[.bool a,.int .i64 c] f1.offset).run P w=.ok (.int .i64 c) w) (w:World) :
  (Go.binOp .eql t (.agg #[.bool a,.int .i64 c]) (.agg #[.bool a',.int .i64 c'])).run P w=.ok (.bool (a==a'&&c==c')) w:=by
 have hf:P.fieldsOf t = #[f0,f1]:=by simp[Program.fieldsOf,h3]
 have e1:(Op.equalIn (9999+1) t (.agg #[.bool a,.int .i64 c]) (.agg #[.bool a',.int .i64 c'])).run P w=.ok (a==a'&&c==c') w:=by
  rw[run_equalIn_struct w 9999 t _ _ (by rw[hf];exact h3) h4,hf];simp only[Op.eqFields,rJ,D2,ne_eq,not_false_eq_true,if_true,Sem.run_bind,HO,zD,Result.andThen_ok];rw[show(9999:Nat)=9998+1 from rfl,run_equalIn_bool' w 9998 f0.type a a' h5];by_cases ha:a=a'
  ·subst ha;simp only[Result.andThen_ok,beq_self_eq_true,Bool.not_true,Bool.false_eq_true,if_false,Sem.run_bind,zD];rw[run_equalIn_int w 9998 f1.type .i64 k' c c' h6];by_cases hc:c=c'<;>simp[hc]
  ·have:(a==a')=false:=by simpa using ha
   simp[this]
 have e3:(Op.equal t (.agg #[.bool a,.int .i64 c]) (.agg #[.bool a',.int .i64 c'])).run P w=.ok (a==a'&&c==c') w:=e1;rw[show Go.binOp .eql t (.agg #[.bool a,.int .i64 c]) (.agg #[.bool a',.int .i64 c'])=(do pure (.bool (<-Op.equal t (.agg #[.bool a,.int .i64 c]) (.agg #[.bool a',.int .i64 c']))))from rfl];simp only[Sem.run_bind,e3,Result.andThen_ok,Sem.run_pure]
theorem adO (x y:Vl) (w:World):(Go.binOp .eql 33 (.agg #[.bool x.ref,.int .i64 x.n]) (.agg #[.bool y.ref,.int .i64 y.n])).run prog w=.ok (.bool (x.ref==y.ref&&x.n==y.n)) w:=by
 refine ad5 _ _ _ _ rfl ?_ ?_ ?_ rfl rfl ?_ ?_ w
 ·kernel_rfl
 ·decide
 ·decide
 ·intro a c w;rfl
 ·intro a c w;rfl
theorem adP (x:Vl):(x.ref==false&&x.n==0)=true↔x=cJ:=by
 obtain⟨r,n⟩:=x;cases r<;>simp[cJ]
theorem ObQ.le {h h':Heap} (hl:h.le h') {xs:List Value} {o:Ob} (hx:ObQ h xs o):ObQ h' xs o:=by
 obtain⟨v,e,hv⟩:=hx;exact⟨v,e,hv.le hl (λ_ _ hx=>hx)⟩
theorem abu.le {h h':Heap} (hl:h.le h') {xs:List Value} {f:bU} (hx:abu h xs f):abu h' xs f:=by
 obtain⟨v,w,e,hv,hw⟩:=hx;exact⟨v,w,e,hv.le hl (λ_ _ hx=>hx),hw.le hl (λ_ _ hx=>hx)⟩
theorem RH.le {h h':Heap} (hl:h.le h') {mc:List Value} {M:bZ} (hx:RH h mc M):RH h' mc M:=by
 obtain⟨vo,vf,vs,e,w1,w2,w3⟩:=hx;exact⟨vo,vf,vs,e,w1.le hl (λ_ _ hx=>ObQ.le hl hx),w2.le hl (λ_ _ hx=>abu.le hl hx),w3.le hl (λ_ _ hx=>hx)⟩
theorem acG {P:Program} {f:FuncId} {args:List Value} {h:Heap} {K:Value->Heap->Prop} {E:List PanicEntry->Heap->Prop} {p:Prop} (k:Go.Vc.Pure P f args h (tf p)) (ht:p->K (.bool true) h) (hf:¬p->K (.bool false) h):Go.Vc.Call P f args h K E:=by
 by_cases hp:p
 ·rw[lW hp]at k;exact ay k (ht hp)
 ·rw[eN hp]at k;exact ay k (hf hp)
theorem adQ {P:Program} {f:FuncId} {args:List Value} {h:Heap} {K:Value->Heap->Prop} {E:List PanicEntry->Heap->Prop} {p:Prop} (k:Go.Vc.Pure P f args h (tf p)) (ht:p->K (.bool true) h) (hf:¬p->K (.bool false) h):jA P f args h K E:=by
 by_cases hp:p
 ·rw[lW hp]at k;exact aT k (ht hp)
 ·rw[eN hp]at k;exact aT k (hf hp)
structure afl (v x:Value) (h' h:Heap):Prop where
 e:v=x
 k:h.le h'
theorem acJ {P:Program} {f:FuncId} {args:List Value} {h:Heap} {S:nH} (hS:dn P S) {fn:Func} (hf:P.funcs[f]? = some fn) (F:Fs) {k:Nat} (ez:aQ F fn k=true) {x:Value} (hl:args.length=k) (hx:Goal P S F fn args h λo h'=>match o with
  | .ret v=>afl v x h' h
  | .lE _=>False):Go.Vc.Pure P f args h x:=by
 subst hl;unfold Go.Vc.Pure bI;refine(calls hS hf F ez hx).shrink λo h' hh=>?_;cases o with
 | ret v=>exact⟨h,hh.2,hh.1,rfl⟩
 | lE c=>exact hh.elim
theorem adi (x:Vl) (n:Nat) (h:Heap):Pure prog 51 [.agg ⟨bR x⟩,.int .i64 n] h (tf (tD n x)):=by
 obtain⟨r,k⟩:=x;show Go.Vc.Pure _ _ [.agg #[.bool r,.int .i64 k],.int .i64 n] h (tf ((r=true->0<=k/\k<=n)/\(r=false->isWord k=true)));refine acJ au func51 F51 afv rfl ?_;cases r
 all_goals conv=>whnf
 ·refine ay (xS _ h) ?_;conv=>whnf
  refine⟨?_,x_ h⟩;by_cases hw:isWord k=true
  ·rw[hw];exact jQ (by simp[hw])
  ·have:isWord k=false:=by simpa using hw
   rw[this];exact iO (by simp[this])
 ·refine ay (er _ _ _ h) ?_;conv=>whnf
  repeat' ((first|apply ax<;>intro g|apply aV<;>intro g)<;>conv=>whnf)
  all_goals first|exact⟨jQ ⟨λ_=>by omega,λh=>nomatch h⟩,x_ h⟩|exact⟨iO (λhx=>by have:=hx.1 rfl;omega),x_ h⟩|exact⟨lX ⟨λhx=>by have:=hx.1 rfl;omega,λhx=>⟨λ_=>by omega,λh=>nomatch h⟩⟩,x_ h⟩
theorem acS (v:Value) (l:List Vl) (n:Nat) (h:Heap) (hv:Row 2 Sd h v l):Pure prog 97 [v,.int .i64 n] h (tf (∀ x∈l,tD n x)):=by
 obtain⟨p,c,rfl,hc,hn⟩:=hv.len;refine acJ au func97 F97 afF rfl ?_;conv=>whnf
 refine fm [0,1,5] [] (λi:Nat=>i<=l.length/\∀ x∈l.take i,tD n x) (λi=>l.length-i)
  (λi=>([.v (.slice p l.length c),.v (.int .i64 n),.v (.int .i64 i)],[],h)) 0 ⟨V_ _,by simp⟩ rfl ?_
 rintro i ⟨hi,hj⟩;conv=>whnf
 apply ax<;>intro g;all_goals conv=>whnf
 ·have cG:i < l.length:=by omega
  obtain⟨b,off,vs,hp,e1,e2⟩:=hv.get cG;have fy:=adi l[i] n h;obtain rfl:=e2;unfold bR at fy;refine aq ?_;conv=>whnf
  refine aO hp ?_;conv=>whnf
  refine dK e1 ?_;conv=>whnf
  by_cases hw:tD n l[i]
  ·rw[lW hw]at fy;refine ay fy ?_;conv=>whnf
   refine aj ?_;conv=>whnf
   exact dm (i+1) ⟨by omega,λx hx=>by
    rw[List.take_add_one,List.mem_append]at hx;rcases hx with hx|hx
    ·exact hj x hx
    ·rw[v_ cG]at hx;simp at hx;subst hx;exact hw⟩ (by omega) rfl
  ·rw[eN hw]at fy;refine ay fy ?_;conv=>whnf
   exact⟨iO λha=>hw (ha _ (w_ cG)),x_ h⟩
 ·have:i=l.length:=by omega
  subst this;rw[List.take_length]at hj;exact⟨jQ hj,x_ h⟩
theorem adu {K:Value->Heap->Prop} {E:List PanicEntry->Heap->Prop} {p:Option Addr} {n c:Nat} {cs:List dR} {x:Int} {h:Heap} (hr:fo h (.slice p n c) cs) (ok:cj cs) (h0:0<=x/\x < cs.length) (hK:∀ h' p' c',h.le h'->K (.slice p' (cX cs x).length c') h') :
  jA prog 98 [.slice p n c,.int .i64 x] h K E:=cE (lZ _ p n c cs x h hr ok h0.1 h0.2 (Nat.lt_succ_self _)) (λv h' hh=>by
 obtain⟨l1,B,own,_⟩:=hh;obtain⟨p',c',rfl,_⟩:=own.form;rw[List.length_map];exact⟨l1,hK h' p' c' l1⟩)
theorem ada {u:aU} {n:Nat} {o:Ob} (hV:∀ x∈o.bE,tD n x):RY u n o↔(((o.cls = -1\/o.cls = -2)/\o.bE.length<=6)\/(0<=o.cls/\o.cls < u.J.length/\o.bE.length=(cX u.J o.cls).length)):=⟨λh=>h.2,λh=>⟨hV,h⟩⟩
theorem adR (us:List Value) (u:aU) (o:Ob) (xs:List Value) (n:Nat) (h:Heap) (hu:dL h us u) (hT:eC u) (ho:ObQ h xs o):Pure prog 52 [.agg ⟨us⟩,.agg ⟨xs⟩,.int .i64 n] h (tf (RY u n o)):=by
 obtain⟨p,cc,q,d,rfl,hcs,fM,jN,hl2⟩:=hu.form;obtain⟨v,rfl,hv⟩:=ho;have J3:=acS v o.bE n h hv;obtain⟨pv,cv,rfl,hc,hn⟩:=hv.len;have aeo:=hT.1;have zm:=hT.1.1;refine acJ au func52 F52 afw rfl ?_;conv=>whnf
 by_cases hV:∀ x∈o.bE,tD n x
 ·rw[lW hV]at J3;refine ay J3 ?_;conv=>whnf
  repeat' ((first|apply ax<;>intro _|apply aV<;>intro _|refine aj ?_|refine aT (er _ _ _ h) ?_|refine adu hcs aeo (by omega) (λh' p' c' l1=>?_)|apply Y_|exact trivial)<;>conv=>whnf)
  all_goals first|exact⟨lX ((ada hV).trans (by omega)),by first|exact x_ h|assumption⟩|exact⟨jQ ((ada hV).2 (by omega)),by first|exact x_ h|assumption⟩|exact⟨iO (λhx=>by have:=(ada hV).1 hx;omega),by first|exact x_ h|assumption⟩
 ·rw[eN hV]at J3;refine ay J3 ?_;conv=>whnf
  exact⟨iO λhx=>hV hx.1,x_ h⟩
theorem adS (M:bZ):aaG M↔(((M.fin=0\/M.fin=3)/\0 < M.ag.length/\M.out=cJ)\/(M.fin=1/\M.ag.length=0)\/(M.fin=2/\M.ag.length=0/\M.out.ref=true/\1<=M.out.n)):=by
 unfold aaG;have e1:M.ag≠[]↔0 < M.ag.length:=List.length_pos_iff.symm;have e2:M.ag=[]↔M.ag.length=0:=List.length_eq_zero_iff.symm;rw[e1,e2]
theorem acO {M:bZ} {r z:Bool} (hr:M.out.ref=r) (hz:(M.out.ref==false&&M.out.n==0)=z):aaG M↔(((M.fin=0\/M.fin=3)/\0 < M.ag.length/\z=true)\/(M.fin=1/\M.ag.length=0)\/(M.fin=2/\M.ag.length=0/\r=true/\1<=M.out.n)):=by
 rw[adS,<-adP,hz,hr]
theorem adT (vo vs:Value) (pf:Option Addr) (cf:Nat) (M:bZ) (h:Heap):Pure prog 55 [.agg ⟨aB vo (.slice pf M.ag.length cf) vs M⟩] h (tf (aaG M)):=by
 refine acJ au func55 F55 afy rfl ?_;unfold aB;have key:∀ b:Bool,(M.out.ref==false&&M.out.n==0)=b->∀ w:World,(Go.binOp .eql 33 (.agg #[.bool M.out.ref,.int .i64 M.out.n]) (.agg #[.bool false,.int .i64 0])).run prog w=.ok (.bool b) w:=λb U w=>by
  rw[<-U];exact adO M.out cJ w
 cases U:(M.out.ref==false&&M.out.n==0)<;>cases hr:M.out.ref
 all_goals
  have acE:=key _ U;rw[hr]at acE;conv=>whnf
  repeat' ((first|apply ax<;>intro _|apply aV<;>intro _|refine jd rfl rfl (λw=>by simp[eqGuard]) acE ?_)<;>conv=>whnf)
  all_goals first|exact⟨jQ ((acO hr U).2 (by simp only[Bool.true_eq_false,Bool.false_eq_true,and_true,and_false,true_and,false_and,or_false,false_or];omega)),x_ h⟩|exact⟨iO (λhx=>by have:=(acO hr U).1 hx;simp only[Bool.true_eq_false,Bool.false_eq_true,and_true,and_false,true_and,false_and,or_false,false_or]at this;omega),x_ h⟩|exact⟨lX ((acO hr U).trans (by simp only[Bool.true_eq_false,Bool.false_eq_true,and_true,and_false,true_and,false_and,or_false,false_or];omega)),x_ h⟩
theorem ad6 (vo vs:Value) (pf:Option Addr) (cf:Nat) (M:bZ) (h:Heap):Pure prog 119 [.agg ⟨aB vo (.slice pf M.ag.length cf) vs M⟩] h (tf (aaG M)):=by
 refine acJ au func119 afd afe rfl ?_;unfold aB;have key:∀ b:Bool,(M.out.ref==false&&M.out.n==0)=b->∀ w:World,(Go.binOp .eql 33 (.agg #[.bool M.out.ref,.int .i64 M.out.n]) (.agg #[.bool false,.int .i64 0])).run prog w=.ok (.bool b) w:=λb U w=>by
  rw[<-U];exact adO M.out cJ w
 cases U:(M.out.ref==false&&M.out.n==0)<;>cases hr:M.out.ref
 all_goals
  have acE:=key _ U;rw[hr]at acE;conv=>whnf
  repeat' ((first|apply ax<;>intro _|apply aV<;>intro _|refine jd rfl rfl (λw=>by simp[eqGuard]) acE ?_)<;>conv=>whnf)
  all_goals first|exact⟨jQ ((acO hr U).2 (by simp only[Bool.true_eq_false,Bool.false_eq_true,and_true,and_false,true_and,false_and,or_false,false_or];omega)),x_ h⟩|exact⟨iO (λhx=>by have:=(acO hr U).1 hx;simp only[Bool.true_eq_false,Bool.false_eq_true,and_true,and_false,true_and,false_and,or_false,false_or]at this;omega),x_ h⟩|exact⟨lX ((acO hr U).trans (by simp only[Bool.true_eq_false,Bool.false_eq_true,and_true,and_false,true_and,false_and,or_false,false_or];omega)),x_ h⟩
theorem acP {u:aU} {n:Nat} {f:bU} (hm:0<=f.ah/\f.ah < u.methods.length):EW u n f↔((0<=f.pc/\f.pc<=(br u f.ah).code.length)/\(f.locals.length:Int)=(br u f.ah).locals/\f.stack.length<=4/\(∀ v∈f.locals,tD n v)/\∀ v∈f.stack,tD n v):=⟨λh=>h.2,λh=>⟨hm,h⟩⟩
theorem adU {u:aU} {n:Nat} {f:bU} (hx:¬((0<=f.pc/\f.pc<=(br u f.ah).code.length)/\(f.locals.length:Int)=(br u f.ah).locals/\f.stack.length<=4)):¬EW u n f:=λh=>hx ⟨h.2.1,h.2.2.1,h.2.2.2.1⟩
theorem adb (us:List Value) (u:aU) (f:bU) (xs:List Value) (n:Nat) (h:Heap) (hu:dL h us u) (hT:eC u) (ho:abu h xs f):Pure prog 53 [.agg ⟨us⟩,.agg ⟨xs⟩,.int .i64 n] h (tf (EW u n f)):=by
 obtain⟨p,cc,q,d,rfl,hcs,fM,jN,hl2⟩:=hu.form;obtain⟨v1,v2,rfl,hv1,Wl⟩:=ho;have k1:=acS v1 f.locals n h hv1;have k2:=acS v2 f.stack n h Wl;obtain⟨p1,c1,rfl,V1,D2⟩:=hv1.len;obtain⟨p2,c2,rfl,LD,OI⟩:=Wl.len;refine acJ au func53 F53 afx rfl ?_;by_cases hm:0<=f.ah/\f.ah < u.methods.length
 ·obtain⟨b,off,vs,hp,r1,m1⟩:=fM.get (i:=f.ah.toNat) (by omega);have em:u.methods[f.ah.toNat]'(by omega)=br u f.ah:=by unfold br;rw[u_,v_ (by omega)];rfl
  rw[em]at m1;obtain⟨_,_,_,_,rfl,_,_,_,_,_,w6,_,_⟩:=m1;obtain⟨_,_,rfl,_,_⟩:=w6.len;have ra:=aK r1 (i:=4) rfl;have rb:=aK r1 (i:=5) rfl;conv=>whnf
  repeat' ((first|apply ax<;>intro _|refine aO hp ?_|refine aq ?_|refine ld rb ?_|refine ld ra ?_|refine aj ?_|refine aT (er _ _ _ h) ?_|apply Y_|exact trivial)<;>conv=>whnf)
  all_goals try first|exact⟨iO (adU (by omega)),x_ h⟩|(exfalso;omega)
  by_cases ab9:∀ v∈f.locals,tD n v
  ·rw[lW ab9]at k1;refine aT k1 ?_;conv=>whnf
   by_cases aca:∀ v∈f.stack,tD n v
   ·rw[lW aca]at k2;refine aT k2 ?_;conv=>whnf
    exact⟨jQ ((acP hm).2 ⟨by omega,by omega,by omega,ab9,aca⟩),x_ h⟩
   ·rw[eN aca]at k2;refine aT k2 ?_;conv=>whnf
    exact⟨iO (λhx=>aca ((acP hm).1 hx).2.2.2.2),x_ h⟩
  ·rw[eN ab9]at k1;refine aT k1 ?_;conv=>whnf
   exact⟨iO (λhx=>ab9 ((acP hm).1 hx).2.2.2.1),x_ h⟩
 ·conv=>whnf
  repeat' ((first|apply ax<;>intro _|apply aV<;>intro _|refine aj ?_|refine aT (er _ _ _ h) ?_|apply Y_|exact trivial)<;>conv=>whnf)
  all_goals first|exact⟨iO (λhx=>hm hx.1),x_ h⟩|(exfalso;omega)
def ObA (u:aU) (n i:Nat) (o:Ob):Prop:=RY u n o/\(i < 7->o.cls=1)
theorem acK (u:aU) (M:bZ):zC u M↔((0<=M.steps/\M.steps<=200)/\(7<=M.objs.length/\M.objs.length<=207)/\M.ag.length<=4/\M.said.length<=200)/\tD M.objs.length M.out/\(∀ i (hi:i < M.objs.length),ObA u M.objs.length i M.objs[i])/\(∀ f∈M.ag,EW u M.objs.length f)/\(∀ n∈M.said,isWord n=true)/\aaG M:=by
 have low:∀(hl:7<=M.objs.length) (k:Int) (h0:0 < k) (h1:k<=7),aF M.objs k=M.objs[(k-1).toNat]'(by omega):=λhl k h0 h1=>by
  unfold aF;rw[u_,v_ (by omega)];rfl
 constructor
 ·intro h;refine⟨⟨h.steps,h.len,h.nf,h.pU⟩,h.out,λi hi=>⟨h.objs _ (w_ hi),λh7=>?_⟩,h.jy,h.said,h.fin⟩;have:=h.low ((i:Int)+1) (by omega) (by omega);rw[low h.len.1 _ (by omega) (by omega)]at this;simp only[show((i:Int)+1-1).toNat=i by omega]at this;exact this
 ·rintro⟨⟨h1,h2,h3,h4⟩,h5,h6,h7,h8,h9⟩;refine⟨h1,h2,h3,h4,h5,λo ho=>?_,λk k0 k1=>?_,h7,h8,h9⟩
  ·obtain⟨i,hi,rfl⟩:=List.mem_iff_getElem.1 ho;exact(h6 i hi).1
  ·rw[low h2.1 k k0 k1];exact(h6 _ (by omega)).2 (by omega)
theorem take_one {α:Type} {l:List α} {i:Nat} {Q:α->Prop} (hi:i < l.length) (hj:∀ x∈l.take i,Q x) (hq:Q l[i]):∀ x∈l.take (i+1),Q x:=λx hx=>by
 rw[List.take_add_one,List.mem_append]at hx;rcases hx with hx|hx
 ·exact hj x hx
 ·rw[v_ hi]at hx;simp at hx;subst hx;exact hq
theorem ac4 (us mc:List Value) (u:aU) (M:bZ) (h:Heap) (hu:dL h us u) (hM:RH h mc M):Pure prog 25 [.agg ⟨us⟩,.agg ⟨mc⟩] h (tf (eC u/\zC u M)):=by
 have iJ:=hu;have hUn:=rA _ u h hu;obtain⟨p,cc,q,d,rfl,hcs,fM,jN,hl2⟩:=hu.form;obtain⟨vo,vf,vs,rfl,w1,w2,w3⟩:=hM;have hO:=adi M.out M.objs.length h;unfold bR at hO;obtain⟨po,co,rfl,OZ,PD⟩:=w1.len;obtain⟨pf,cf,rfl,hcf,Qn⟩:=w2.len;obtain⟨ps,cs,rfl,hcS,hns⟩:=w3.len;have afm:=adT (.slice po M.objs.length co) (.slice ps M.said.length cs) pf cf M h;refine acJ au func25 F25 afr rfl ?_;unfold aB at afm ⊢;conv=>whnf
 by_cases hU:eC u
 ·rw[lW hU]at hUn;refine ay hUn ?_;conv=>whnf
  by_cases hA:(0<=M.steps/\M.steps<=200)/\(7<=M.objs.length/\M.objs.length<=207)/\M.ag.length<=4/\M.said.length<=200
  ·by_cases ace:tD M.objs.length M.out
   ·rw[lW ace]at hO;repeat' ((first|refine cF ?_|refine bL ?_|refine ay (er _ _ _ h) ?_|refine ay hO ?_)<;>conv=>whnf)
    refine fm [2,3,5,6] [2,3] (λi:Nat=>i<=M.objs.length/\∀ j (hj:j < M.objs.length),j < i->ObA u M.objs.length j M.objs[j]) (λi=>M.objs.length-i)
     (λi=>([.l 2 0,.l 3 0,.v (.int .i64 M.objs.length),.v (.int .i64 i)],[some [.slice p u.J.length cc,.slice q u.methods.length d],some [.slice po M.objs.length co,.slice pf M.ag.length cf,.slice ps M.said.length cs,.int .i64 M.steps,.int .i64 M.fin,.bool M.out.ref,.int .i64 M.out.n]],h)) 0 ⟨V_ _,λ_ _ h=>absurd h (by omega)⟩ rfl ?_
    rintro i ⟨hi,hj⟩;conv=>whnf
    apply ax<;>intro g;all_goals conv=>whnf
    ·have cG:i < M.objs.length:=by omega
     obtain⟨b,off,xs,hp,r1,m1⟩:=w1.get cG;have fy:=adR _ u M.objs[i] xs M.objs.length h iJ hU m1;obtain⟨v,rfl,_⟩:=m1;have ra:=aK r1 (i:=0) rfl;by_cases aci:RY u M.objs.length M.objs[i]
     ·rw[lW aci]at fy;repeat' ((first|apply ax<;>intro _|apply aV<;>intro _|refine aO hp ?_|refine aq ?_|refine dK r1 ?_|refine ld ra ?_|refine aT fy ?_|refine aj ?_|apply Y_|exact trivial)<;>conv=>whnf)
      ·exact⟨iO (λhx=>by have:=(((acK u M).1 hx.2).2.2.1 i cG).2 (by omega);omega),x_ h⟩
      all_goals exact dm (i+1) ⟨by omega,λj hl hjj=>by
       by_cases jv:j=i
       ·subst jv;exact⟨aci,by omega⟩
       ·exact hj j hl (by omega)⟩ (by omega) rfl
     ·rw[eN aci]at fy;repeat' ((first|refine aO hp ?_|refine aq ?_|refine dK r1 ?_|refine ld ra ?_|refine aT fy ?_|apply Y_|exact trivial)<;>conv=>whnf)
      exact⟨iO λhx=>aci (((acK u M).1 hx.2).2.2.1 i cG).1,x_ h⟩
    have Ij:i=M.objs.length:=by omega
    subst Ij;refine fm [2,3,5,7] [2,3] (λi:Nat=>i<=M.ag.length/\∀ f∈M.ag.take i,EW u M.objs.length f) (λi=>M.ag.length-i)
     (λi=>([.l 2 0,.l 3 0,.v (.int .i64 M.objs.length),.v (.int .i64 i)],[some [.slice p u.J.length cc,.slice q u.methods.length d],some [.slice po M.objs.length co,.slice pf M.ag.length cf,.slice ps M.said.length cs,.int .i64 M.steps,.int .i64 M.fin,.bool M.out.ref,.int .i64 M.out.n]],h)) 0 ⟨V_ _,by simp⟩ rfl ?_
    rintro i ⟨hi,hjf⟩;conv=>whnf
    apply ax<;>intro g;all_goals conv=>whnf
    ·have cG:i < M.ag.length:=by omega
     obtain⟨b,off,xs,hp,r1,m1⟩:=w2.get cG;have fy:=adb _ u M.ag[i] xs M.objs.length h iJ hU m1;obtain⟨v1,v2,rfl,_⟩:=m1;by_cases aci:EW u M.objs.length M.ag[i]
     ·rw[lW aci]at fy;repeat' ((first|refine aO hp ?_|refine aq ?_|refine dK r1 ?_|refine aT fy ?_|refine aj ?_|apply Y_|exact trivial)<;>conv=>whnf)
      exact dm (i+1) ⟨by omega,take_one cG hjf aci⟩ (by omega) rfl
     ·rw[eN aci]at fy;repeat' ((first|refine aO hp ?_|refine aq ?_|refine dK r1 ?_|refine aT fy ?_|apply Y_|exact trivial)<;>conv=>whnf)
      exact⟨iO λhx=>aci (((acK u M).1 hx.2).2.2.2.1 _ (w_ cG)),x_ h⟩
    have Ij:i=M.ag.length:=by omega
    subst Ij;rw[List.take_length]at hjf;refine fm [3,8] [3] (λi:Nat=>i<=M.said.length/\∀ n∈M.said.take i,isWord n=true) (λi=>M.said.length-i)
     (λi=>([.l 3 0,.v (.int .i64 i)],[some [.slice po M.objs.length co,.slice pf M.ag.length cf,.slice ps M.said.length cs,.int .i64 M.steps,.int .i64 M.fin,.bool M.out.ref,.int .i64 M.out.n]],h)) 0 ⟨V_ _,by simp⟩ rfl ?_
    rintro i ⟨hi,hjs⟩;conv=>whnf
    apply ax<;>intro g;all_goals conv=>whnf
    ·have cG:i < M.said.length:=by omega
     obtain⟨b,off,xs,hp,r1,m1⟩:=w3.get cG;have fy:=xS M.said[i] h;unfold NY at m1;subst m1;have ra:=aK r1 (i:=0) rfl;by_cases aci:isWord M.said[i]=true
     ·rw[aci]at fy;repeat' ((first|refine aO hp ?_|refine aq ?_|refine ld ra ?_|refine ay fy ?_|refine aj ?_)<;>conv=>whnf)
      exact dm (i+1) ⟨by omega,take_one cG hjs aci⟩ (by omega) rfl
     ·rw[show isWord M.said[i]=false by simpa using aci]at fy;repeat' ((first|refine aO hp ?_|refine aq ?_|refine ld ra ?_|refine ay fy ?_)<;>conv=>whnf)
      exact⟨iO λhx=>aci (((acK u M).1 hx.2).2.2.2.2.1 _ (w_ cG)),x_ h⟩
    have Ij:i=M.said.length:=by omega
    subst Ij;rw[List.take_length]at hjs;refine ay afm ?_;conv=>whnf
    refine⟨?_,x_ h⟩;by_cases acd:aaG M
    ·rw[lW acd];exact jQ (Y_ hU <| (acK u M).2 ⟨hA,ace,λj hl=>hj j hl hl,hjf,hjs,acd⟩)
    ·rw[eN acd];exact iO λhx=>acd ((acK u M).1 hx.2).2.2.2.2.2
   ·rw[eN ace]at hO;repeat' ((first|refine cF ?_|refine bL ?_|refine ay (er _ _ _ h) ?_|refine ay hO ?_)<;>conv=>whnf)
    exact⟨iO λhx=>ace ((acK u M).1 hx.2).2.1,x_ h⟩
  ·by_cases ace:tD M.objs.length M.out
   ·rw[lW ace]at hO;repeat' ((first|apply ax<;>intro _|apply aV<;>intro _|refine ay (er _ _ _ h) ?_|refine ay hO ?_|(exfalso;omega)|exact⟨iO λhx=>hA ((acK u M).1 hx.2).1,x_ h⟩)<;>conv=>whnf)
   ·rw[eN ace]at hO;repeat' ((first|apply ax<;>intro _|apply aV<;>intro _|refine ay (er _ _ _ h) ?_|refine ay hO ?_|(exfalso;omega)|exact⟨iO λhx=>hA ((acK u M).1 hx.2).1,x_ h⟩)<;>conv=>whnf)
 ·rw[eN hU]at hUn;refine ay hUn ?_;conv=>whnf
  exact⟨iO λhx=>hU hx.1,x_ h⟩
theorem adF (r:Bool) (k:Int) (n:Int) (h:Heap):Pure prog 100 [.agg #[.bool r,.int .i64 k],.int .i64 n] h (tf (r=true->0<=k/\k<=n)):=by
 refine acJ au func100 aeD aeE rfl ?_;cases r
 all_goals conv=>whnf
 ·exact⟨jQ (λh=>nomatch h),x_ h⟩
 ·repeat' ((first|apply ax<;>intro _|apply aV<;>intro _)<;>conv=>whnf)
  all_goals first|exact⟨jQ (λ_=>by omega),x_ h⟩|exact⟨iO (λhx=>by have:=hx rfl;omega),x_ h⟩|exact⟨lX ⟨λhx=>by have:=hx rfl;omega,λhx _=>by omega⟩,x_ h⟩
theorem adv (c:Value) (q:Option Addr) (n d:Nat) (k:Int) (h:Heap):Pure prog 102 [.agg #[c,.slice q n d],.int .i64 k] h (tf (0<=k/\k < n)):=by
 refine acJ au func102 aeH aeI rfl ?_;conv=>whnf
 repeat' ((first|apply ax<;>intro _|apply aV<;>intro _)<;>conv=>whnf)
 all_goals first|exact⟨jQ (by omega),x_ h⟩|exact⟨iO (by omega),x_ h⟩|exact⟨lX (by omega),x_ h⟩
theorem ac3 {K:Value->Heap->Prop} {E:List PanicEntry->Heap->Prop} {p:Option Addr} {n c:Nat} {cs:List dR} {x:Int} {h:Heap} (hr:fo h (.slice p n c) cs) (ok:cj cs) (h0:0<=x/\x < cs.length) (hK:∀ h' p' c',h.le h'->K (.slice p' (cX cs x).length c') h') :
  jA prog 157 [.slice p n c,.int .i64 x] h K E:=cE (nq _ p n c cs x h hr ok h0.1 h0.2 (Nat.lt_succ_self _)) (λv h' hh=>by
 obtain⟨l1,B,own,_⟩:=hh;obtain⟨p',c',rfl,_⟩:=own.form;rw[List.length_map];exact⟨l1,hK h' p' c' l1⟩)
def ObC (u:aU) (o:Ob):Prop:=((o.cls = -1\/o.cls = -2)/\o.bE.length<=6)\/(0<=o.cls/\o.cls < u.J.length/\o.bE.length=(cX u.J o.cls).length)
theorem ad7 (p:Option Addr) (cc:Nat) (u:aU) (o:Ob) (pv:Option Addr) (cv:Nat) (h:Heap) (hcs:Row 2 CG h (.slice p u.J.length cc) u.J) (hT:eC u):Pure prog 115 [.slice p u.J.length cc,.agg #[.int .i64 o.cls,.slice pv o.bE.length cv]] h (tf (ObC u o)):=by
 have aeo:=hT.1;refine acJ au func115 ae5 ae6 rfl ?_;unfold ObC;conv=>whnf
 by_cases c1:0<=o.cls/\o.cls < u.J.length
 ·have hc:=vu p u.J.length cc o.cls h;rw[lW c1]at hc;repeat' ((first|refine bL ?_|refine aT hc ?_|refine ac3 hcs aeo c1 (λh' p' c' l1=>?_)|apply Y_|exact trivial)<;>conv=>whnf)
  all_goals exact⟨lX (by omega),by first|exact x_ h|assumption⟩
 ·have hc:=vu p u.J.length cc o.cls h;rw[eN c1]at hc;repeat' ((first|apply ax<;>intro _|refine aT hc ?_|apply Y_|exact trivial)<;>conv=>whnf)
  all_goals first|exact⟨lX (by omega),x_ h⟩|exact⟨iO (by omega),x_ h⟩
theorem aep (x:Vl) (bm:Nat) (pf po:Option Addr) (no co:Nat) (vf vs:Value) (st fi on:Int) (orf:Bool) (t:TypeId) (h:Heap) (U:h bm=some (.cells [.slice po no co,vf,vs,.int .i64 st,.int .i64 fi,.bool orf,.int .i64 on].toArray t (0,0))) :
  Pure prog 99 [.agg ⟨bR x⟩,.pointer (some ⟨bm,0,none⟩)] h (tf (tD no x)):=by
 obtain⟨r,k⟩:=x;unfold bR tD;refine acJ au func99 F99 afG rfl ?_;have h1:=adF r k no h;have h2:=CK k h;cases r
 all_goals conv=>whnf
 ·refine ay h2 ?_;conv=>whnf
  refine⟨?_,x_ h⟩;by_cases hw:isWord k=true
  ·rw[hw];exact jQ (by simp[hw])
  ·have:isWord k=false:=by simpa using hw
   rw[this];exact iO (by simp[this])
 ·refine ld (ec U rfl) ?_;conv=>whnf
  refine ay h1 ?_;conv=>whnf
  refine⟨?_,x_ h⟩;by_cases hw:0<=k/\k<=no
  ·rw[lW (λ_=>hw)];exact jQ (by simp;omega)
  ·rw[eN (λhx=>hw (hx rfl))];exact iO (by simp;omega)
theorem adV (l:List Vl) (v:Value) (bm:Nat) (Q:Vl->Prop) (h:Heap) (hv:Row 2 Sd h v l) (hQ:∀ x∈l,∀ xs,Sd h xs x->Pure prog 99 [.agg ⟨xs⟩,.pointer (some ⟨bm,0,none⟩)] h (tf (Q x))) :
  Pure prog 103 [v,.func (.func 99) #[] #[.pointer (some ⟨bm,0,none⟩)]] h (tf (∀ x∈l,Q x)):=by
 obtain⟨p,c,rfl,hc,hn⟩:=hv.len;refine acJ au func103 aeJ aeK rfl ?_;conv=>whnf
 refine fm [1,7,8,9] [] (λi:Nat=>i<=l.length/\∀ x∈l.take i,Q x) (λi=>l.length-i)
  (λi=>([.v (.func (.func 99) #[] #[.pointer (some ⟨bm,0,none⟩)]),.v (.slice p l.length c),.v (.int .i64 l.length),.v (.int .i64 i)],[],h)) 0 ⟨V_ _,by simp⟩ rfl ?_
 rintro i ⟨hi,hj⟩;conv=>whnf
 apply ax<;>intro g;all_goals conv=>whnf
 ·have cG:i < l.length:=by omega
  obtain⟨b,off,xs,hp,r1,m1⟩:=hv.get cG;have fy:=hQ _ (w_ cG) xs m1;unfold Sd at m1;subst m1;by_cases aci:Q l[i]
  ·rw[lW aci]at fy;repeat' ((first|refine aO hp ?_|refine aq ?_|refine dK r1 ?_|refine ay fy ?_|refine aj ?_)<;>conv=>whnf)
   exact dm (i+1) ⟨by omega,take_one cG hj aci⟩ (by omega) rfl
  ·rw[eN aci]at fy;repeat' ((first|refine aO hp ?_|refine aq ?_|refine dK r1 ?_|refine ay fy ?_|refine aj ?_)<;>conv=>whnf)
   exact⟨iO λhx=>aci (hx _ (w_ cG)),x_ h⟩
 ·have:i=l.length:=by omega
  subst this;rw[List.take_length]at hj;exact⟨jQ hj,x_ h⟩
theorem adW (l:List Int) (v:Value) (Q:Int->Prop) (h:Heap) (hv:Row 1 NY h v l) (hQ:∀ x∈l,∀ xs,NY h xs x->Pure prog 66 [.int .i64 x] h (tf (Q x))) :
  Pure prog 109 [v,.func (.func 66) #[] #[]] h (tf (∀ x∈l,Q x)):=by
 obtain⟨p,c,rfl,hc,hn⟩:=hv.len;refine acJ au func109 aeV aeW rfl ?_;conv=>whnf
 refine fm [1,7,8,9] [] (λi:Nat=>i<=l.length/\∀ x∈l.take i,Q x) (λi=>l.length-i)
  (λi=>([.v (.func (.func 66) #[] #[]),.v (.slice p l.length c),.v (.int .i64 l.length),.v (.int .i64 i)],[],h)) 0 ⟨V_ _,by simp⟩ rfl ?_
 rintro i ⟨hi,hj⟩;conv=>whnf
 apply ax<;>intro g;all_goals conv=>whnf
 ·have cG:i < l.length:=by omega
  obtain⟨b,off,xs,hp,r1,m1⟩:=hv.get cG;have fy:=hQ _ (w_ cG) xs m1;(unfold NY at m1;subst m1;have ra:=aK r1 (i:=0) rfl)
  by_cases aci:Q l[i]
  ·rw[lW aci]at fy;repeat' ((first|refine aO hp ?_|refine aq ?_|refine ld ra ?_|refine ay fy ?_|refine aj ?_)<;>conv=>whnf)
   exact dm (i+1) ⟨by omega,take_one cG hj aci⟩ (by omega) rfl
  ·rw[eN aci]at fy;repeat' ((first|refine aO hp ?_|refine aq ?_|refine ld ra ?_|refine ay fy ?_|refine aj ?_)<;>conv=>whnf)
   exact⟨iO λhx=>aci (hx _ (w_ cG)),x_ h⟩
 ·have:i=l.length:=by omega
  subst this;rw[List.take_length]at hj;exact⟨jQ hj,x_ h⟩
theorem adG (l:List Ob) (v:Value) (Q:Ob->Prop) (h:Heap) (hv:Row 2 ObQ h v l) (hQ:∀ x∈l,∀ xs,ObQ h xs x->Pure prog 112 [.agg ⟨xs⟩] h (tf (Q x))) :
  Pure prog 111 [v,.func (.func 112) #[] #[]] h (tf (∀ x∈l,Q x)):=by
 obtain⟨p,c,rfl,hc,hn⟩:=hv.len;refine acJ au func111 aem aej rfl ?_;conv=>whnf
 refine fm [1,7,8,9] [] (λi:Nat=>i<=l.length/\∀ x∈l.take i,Q x) (λi=>l.length-i)
  (λi=>([.v (.func (.func 112) #[] #[]),.v (.slice p l.length c),.v (.int .i64 l.length),.v (.int .i64 i)],[],h)) 0 ⟨V_ _,by simp⟩ rfl ?_
 rintro i ⟨hi,hj⟩;conv=>whnf
 apply ax<;>intro g;all_goals conv=>whnf
 ·have cG:i < l.length:=by omega
  obtain⟨b,off,xs,hp,r1,m1⟩:=hv.get cG;have fy:=hQ _ (w_ cG) xs m1;(obtain⟨w,rfl,hw⟩:=m1;obtain⟨_,_,rfl,_,_⟩:=hw.len)
  by_cases aci:Q l[i]
  ·rw[lW aci]at fy;repeat' ((first|refine aO hp ?_|refine aq ?_|refine dK r1 ?_|refine ay fy ?_|refine aj ?_)<;>conv=>whnf)
   exact dm (i+1) ⟨by omega,take_one cG hj aci⟩ (by omega) rfl
  ·rw[eN aci]at fy;repeat' ((first|refine aO hp ?_|refine aq ?_|refine dK r1 ?_|refine ay fy ?_|refine aj ?_)<;>conv=>whnf)
   exact⟨iO λhx=>aci (hx _ (w_ cG)),x_ h⟩
 ·have:i=l.length:=by omega
  subst this;rw[List.take_length]at hj;exact⟨jQ hj,x_ h⟩
theorem adH (l:List Ob) (v:Value) (bu b5:Nat) (Q:Ob->Prop) (h:Heap) (hv:Row 2 ObQ h v l) (hQ:∀ x∈l,∀ xs,ObQ h xs x->Pure prog 114 [.agg ⟨xs⟩,.pointer (some ⟨bu,0,none⟩),.pointer (some ⟨b5,0,none⟩)] h (tf (Q x))) :
  Pure prog 111 [v,.func (.func 114) #[] #[.pointer (some ⟨bu,0,none⟩),.pointer (some ⟨b5,0,none⟩)]] h (tf (∀ x∈l,Q x)):=by
 obtain⟨p,c,rfl,hc,hn⟩:=hv.len;refine acJ au func111 aem aej rfl ?_;conv=>whnf
 refine fm [1,7,8,9] [] (λi:Nat=>i<=l.length/\∀ x∈l.take i,Q x) (λi=>l.length-i)
  (λi=>([.v (.func (.func 114) #[] #[.pointer (some ⟨bu,0,none⟩),.pointer (some ⟨b5,0,none⟩)]),.v (.slice p l.length c),.v (.int .i64 l.length),.v (.int .i64 i)],[],h)) 0 ⟨V_ _,by simp⟩ rfl ?_
 rintro i ⟨hi,hj⟩;conv=>whnf
 apply ax<;>intro g;all_goals conv=>whnf
 ·have cG:i < l.length:=by omega
  obtain⟨b,off,xs,hp,r1,m1⟩:=hv.get cG;have fy:=hQ _ (w_ cG) xs m1;(obtain⟨w,rfl,hw⟩:=m1;obtain⟨_,_,rfl,_,_⟩:=hw.len)
  by_cases aci:Q l[i]
  ·rw[lW aci]at fy;repeat' ((first|refine aO hp ?_|refine aq ?_|refine dK r1 ?_|refine ay fy ?_|refine aj ?_)<;>conv=>whnf)
   exact dm (i+1) ⟨by omega,take_one cG hj aci⟩ (by omega) rfl
  ·rw[eN aci]at fy;repeat' ((first|refine aO hp ?_|refine aq ?_|refine dK r1 ?_|refine ay fy ?_|refine aj ?_)<;>conv=>whnf)
   exact⟨iO λhx=>aci (hx _ (w_ cG)),x_ h⟩
 ·have:i=l.length:=by omega
  subst this;rw[List.take_length]at hj;exact⟨jQ hj,x_ h⟩
theorem adX (l:List bU) (v:Value) (bu b5:Nat) (Q:bU->Prop) (h:Heap) (hv:Row 4 abu h v l) (hQ:∀ x∈l,∀ xs,abu h xs x->Pure prog 101 [.agg ⟨xs⟩,.pointer (some ⟨bu,0,none⟩),.pointer (some ⟨b5,0,none⟩)] h (tf (Q x))) :
  Pure prog 117 [v,.func (.func 101) #[] #[.pointer (some ⟨bu,0,none⟩),.pointer (some ⟨b5,0,none⟩)]] h (tf (∀ x∈l,Q x)):=by
 obtain⟨p,c,rfl,hc,hn⟩:=hv.len;refine acJ au func117 ae9 afa rfl ?_;conv=>whnf
 refine fm [1,7,8,9] [] (λi:Nat=>i<=l.length/\∀ x∈l.take i,Q x) (λi=>l.length-i)
  (λi=>([.v (.func (.func 101) #[] #[.pointer (some ⟨bu,0,none⟩),.pointer (some ⟨b5,0,none⟩)]),.v (.slice p l.length c),.v (.int .i64 l.length),.v (.int .i64 i)],[],h)) 0 ⟨V_ _,by simp⟩ rfl ?_
 rintro i ⟨hi,hj⟩;conv=>whnf
 apply ax<;>intro g;all_goals conv=>whnf
 ·have cG:i < l.length:=by omega
  obtain⟨b,off,xs,hp,r1,m1⟩:=hv.get cG;have fy:=hQ _ (w_ cG) xs m1;(obtain⟨w1,w2,rfl,Iy,Ck⟩:=m1;obtain⟨_,_,rfl,_,_⟩:=Iy.len;obtain⟨_,_,rfl,_,_⟩:=Ck.len)
  by_cases aci:Q l[i]
  ·rw[lW aci]at fy;repeat' ((first|refine aO hp ?_|refine aq ?_|refine dK r1 ?_|refine ay fy ?_|refine aj ?_)<;>conv=>whnf)
   exact dm (i+1) ⟨by omega,take_one cG hj aci⟩ (by omega) rfl
  ·rw[eN aci]at fy;repeat' ((first|refine aO hp ?_|refine aq ?_|refine dK r1 ?_|refine ay fy ?_|refine aj ?_)<;>conv=>whnf)
   exact⟨iO λhx=>aci (hx _ (w_ cG)),x_ h⟩
 ·have:i=l.length:=by omega
  subst this;rw[List.take_length]at hj;exact⟨jQ hj,x_ h⟩
abbrev acH (b:Nat):Value:=.pointer (some ⟨b,0,none⟩)
structure Ask (h:Heap) (bu bm b5 b6:Nat) (p:Option Addr) (cc:Nat) (q:Option Addr) (d:Nat) (u:aU) (po:Option Addr) (co:Nat) (pf:Option Addr) (cf:Nat) (ps:Option Addr) (cs:Nat) (M:bZ):Prop where
 kbu:∃ t,h bu=some (.cells [.slice p u.J.length cc,.slice q u.methods.length d].toArray t (0,0))
 kbm:∃ t,h bm=some (.cells [.slice po M.objs.length co,.slice pf M.ag.length cf,.slice ps M.said.length cs,.int .i64 M.steps,.int .i64 M.fin,.bool M.out.ref,.int .i64 M.out.n].toArray t (0,0))
 kb5:∃ t,h b5=some (.cells [.func (.func 99) #[] #[acH bm]].toArray t (0,0))
 kb6:∃ t,h b6=some (.cells [.func (.func 101) #[] #[acH bu,acH b5]].toArray t (0,0))
 cls:Row 2 CG h (.slice p u.J.length cc) u.J
 br:Row 8 ee h (.slice q u.methods.length d) u.methods
 objs:Row 2 ObQ h (.slice po M.objs.length co) M.objs
 ag:Row 4 abu h (.slice pf M.ag.length cf) M.ag
 said:Row 1 NY h (.slice ps M.said.length cs) M.said
 hT:eC u
section
variable {h:Heap} {bu bm b5 b6:Nat} {p q po pf ps:Option Addr} {cc d co cf cs:Nat} {u:aU} {M:bZ}
theorem Ask.val (a:Ask h bu bm b5 b6 p cc q d u po co pf cf ps cs M) (x:Vl):Pure prog 99 [.agg ⟨bR x⟩,acH bm] h (tf (tD M.objs.length x)):=by
 obtain⟨t,U⟩:=a.kbm;exact aep x bm none po _ co _ _ _ _ _ _ t h U
theorem Ask.bE (a:Ask h bu bm b5 b6 p cc q d u po co pf cf ps cs M) (l:List Vl) (v:Value) (hv:Row 2 Sd h v l):Pure prog 103 [v,.func (.func 99) #[] #[acH bm]] h (tf (∀ x∈l,tD M.objs.length x)) :=
 adV l v bm _ h hv λx _ xs hx=>by
  unfold Sd at hx;subst hx;exact a.val x
theorem aeq (a:Ask h bu bm b5 b6 p cc q d u po co pf cf ps cs M) (f:bU) (xs:List Value) (hf:abu h xs f):Pure prog 101 [.agg ⟨xs⟩,acH bu,acH b5] h (tf (EW u M.objs.length f)):=by
 obtain⟨v1,v2,rfl,hv1,Wl⟩:=hf;have k1:=a.bE f.locals v1 hv1;have k2:=a.bE f.stack v2 Wl;obtain⟨p1,c1,rfl,V1,D2⟩:=hv1.len;obtain⟨p2,c2,rfl,LD,OI⟩:=Wl.len;obtain⟨tu,hbu⟩:=a.kbu;obtain⟨t5,qw⟩:=a.kb5;have F7:=a.br.len;have km:=adv (.slice p u.J.length cc) q u.methods.length d f.ah h;have ru:eG h bu 0 2=some [.slice p u.J.length cc,.slice q u.methods.length d]:=bP hbu 2 0 (by simp);have ru1:rd h bu 1=some (.slice q u.methods.length d):=ec hbu rfl;have r5:rd h b5 0=some (.func (.func 99) #[] #[acH bm]):=ec qw rfl;refine acJ au func101 aeF aeG rfl ?_;conv=>whnf
 by_cases hm:0<=f.ah/\f.ah < u.methods.length
 ·rw[lW hm]at km;obtain⟨b,off,vs,hp,r1,m1⟩:=a.br.get (i:=f.ah.toNat) (by omega);have em:u.methods[f.ah.toNat]'(by omega)=br u f.ah:=by unfold br;rw[u_,v_ (by omega)];rfl
  rw[em]at m1;obtain⟨_,_,_,_,rfl,_,_,_,_,_,w6,_,_⟩:=m1;obtain⟨_,_,rfl,_,_⟩:=w6.len;have ra:=aK r1 (i:=4) rfl;have rb:=aK r1 (i:=5) rfl;refine dK ru ?_;conv=>whnf
  refine aT km ?_;conv=>whnf
  repeat' ((first|apply ax<;>intro _|refine aO hp ?_|refine aq ?_|refine ld ru1 ?_|refine ld rb ?_|refine ld ra ?_|refine ld r5 ?_|refine aj ?_|refine aT (CV _ _ _ h) ?_|apply Y_|exact trivial)<;>conv=>whnf)
  all_goals try first|exact⟨iO (adU (by omega)),x_ h⟩|(exfalso;omega)
  by_cases ab9:∀ v∈f.locals,tD M.objs.length v
  ·rw[lW ab9]at k1;refine aT k1 ?_;conv=>whnf
   refine ld r5 ?_;conv=>whnf
   by_cases aca:∀ v∈f.stack,tD M.objs.length v
   ·rw[lW aca]at k2;refine aT k2 ?_;conv=>whnf
    exact⟨jQ ((acP hm).2 ⟨by omega,by omega,by omega,ab9,aca⟩),x_ h⟩
   ·rw[eN aca]at k2;refine aT k2 ?_;conv=>whnf
    exact⟨iO (λhx=>aca ((acP hm).1 hx).2.2.2.2),x_ h⟩
  ·rw[eN ab9]at k1;refine aT k1 ?_;conv=>whnf
   exact⟨iO (λhx=>ab9 ((acP hm).1 hx).2.2.2.1),x_ h⟩
 ·rw[eN hm]at km;refine dK ru ?_;conv=>whnf
  refine aT km ?_;conv=>whnf
  repeat' ((first|apply Y_|exact trivial)<;>conv=>whnf)
  all_goals exact⟨iO (λhx=>hm hx.1),x_ h⟩
theorem aer (a:Ask h bu bm b5 b6 p cc q d u po co pf cf ps cs M):Pure prog 105 [acH bm] h (tf (0<=M.steps/\M.steps<=200)):=by
 obtain⟨t,U⟩:=a.kbm;refine acJ au func105 aeN aeO rfl ?_;conv=>whnf
 refine ld (ec U rfl) ?_;conv=>whnf
 refine ay (CV _ _ _ h) ?_;conv=>whnf
 exact⟨lX Iff.rfl,x_ h⟩
theorem aes (a:Ask h bu bm b5 b6 p cc q d u po co pf cf ps cs M):Pure prog 106 [acH bm] h (tf (7<=M.objs.length/\M.objs.length<=207)):=by
 obtain⟨t,U⟩:=a.kbm;refine acJ au func106 aeP aeQ rfl ?_;conv=>whnf
 refine ld (ec U rfl) ?_;conv=>whnf
 refine ay (CV _ _ _ h) ?_;conv=>whnf
 exact⟨lX (by omega),x_ h⟩
theorem aet (a:Ask h bu bm b5 b6 p cc q d u po co pf cf ps cs M):Pure prog 107 [acH bm] h (tf (M.ag.length<=4/\M.said.length<=200)):=by
 obtain⟨t,U⟩:=a.kbm;refine acJ au func107 aeR aeS rfl ?_;conv=>whnf
 repeat' ((first|apply ax<;>intro _|refine ld (ec (v:=.slice pf M.ag.length cf) U rfl) ?_|refine ld (ec (v:=.slice ps M.said.length cs) U rfl) ?_)<;>conv=>whnf)
 all_goals first|exact⟨lX (by omega),x_ h⟩|exact⟨iO (by omega),x_ h⟩
theorem aeu (a:Ask h bu bm b5 b6 p cc q d u po co pf cf ps cs M):Pure prog 108 [acH bm] h (tf (∀ n∈M.said,isWord n=true)):=by
 obtain⟨t,U⟩:=a.kbm;have k:=adW M.said _ (λn=>isWord n=true) h a.said (λx _ xs _=>by
  have:=CK x h;by_cases hw:isWord x=true
  ·rw[lW hw,<-hw];exact this
  ·rw[eN hw,<-(show isWord x=false by simpa using hw)];exact this)
 refine acJ au func108 aeT aeU rfl ?_;conv=>whnf
 refine ld (ec U rfl) ?_;conv=>whnf
 refine ay k ?_;conv=>whnf
 exact⟨rfl,x_ h⟩
theorem ad8 (o:Ob) (xs:List Value) (ho:ObQ h xs o):Pure prog 112 [.agg ⟨xs⟩] h (tf (o.cls=1)):=by
 obtain⟨v,rfl,hv⟩:=ho;obtain⟨_,_,rfl,_,_⟩:=hv.len;refine acJ au func112 aeZ ae0 rfl ?_;conv=>whnf
 exact⟨lX Iff.rfl,x_ h⟩
theorem adY {α:Type} {sz:Nat} {R:Heap->List Value->α->Prop} {h:Heap} {p:Option Addr} {n c:Nat} {l:List α} (hr:Row sz R h (.slice p n c) l) {k:Nat} (hk:k<=l.length):Row sz R h (.slice p k c) (l.take k):=by
 obtain⟨h1,p',c',e,h2,h3⟩:=hr;simp only[Value.slice.injEq]at e;obtain⟨rfl,rfl,rfl⟩:=e;have hl:(l.take k).length=k:=by rw[List.length_take];omega
 refine⟨by omega,p,c,by rw[hl],by omega,?_⟩;rcases h3 with rfl|⟨b,off,rfl,hx⟩
 ·left;simp
 ·exact .inr ⟨b,off,rfl,λi x hi=>hx i x (by
   rw[List.getElem?_take]at hi;split at hi
   ·exact hi
   ·cases hi)⟩
theorem aev (a:Ask h bu bm b5 b6 p cc q d u po co pf cf ps cs M) (h7:7<=M.objs.length):Pure prog 110 [acH bm] h (tf (∀ o∈M.objs.take 7,o.cls=1)):=by
 obtain⟨t,U⟩:=a.kbm;obtain⟨_,_,e,hc,_⟩:=a.objs.len;simp only[Value.slice.injEq]at e;obtain⟨rfl,_,rfl⟩:=e;have k:=adG (M.objs.take 7) _ (λo=>o.cls=1) h (adY a.objs h7) (λx _ xs hx=>ad8 x xs hx);refine acJ au func110 aeX aeY rfl ?_;conv=>whnf
 refine ld (ec U rfl) ?_;conv=>whnf
 refine aq ?_;conv=>whnf
 refine ay k ?_;conv=>whnf
 exact⟨rfl,x_ h⟩
theorem ad9 (a:Ask h bu bm b5 b6 p cc q d u po co pf cf ps cs M) (o:Ob) (xs:List Value) (ho:ObQ h xs o):Pure prog 114 [.agg ⟨xs⟩,acH bu,acH b5] h (tf (RY u M.objs.length o)):=by
 obtain⟨v,rfl,hv⟩:=ho;have k:=a.bE o.bE v hv;obtain⟨pv,cv,rfl,_,_⟩:=hv.len;have kc:=ad7 p cc u o pv cv h a.cls a.hT;obtain⟨tu,hbu⟩:=a.kbu;obtain⟨t5,qw⟩:=a.kb5;refine acJ au func114 ae3 ae4 rfl ?_;conv=>whnf
 refine ld (ec hbu rfl) ?_;conv=>whnf
 by_cases acb:ObC u o
 ·rw[lW acb]at kc;refine ay kc ?_;conv=>whnf
  refine ld (ec qw rfl) ?_;conv=>whnf
  by_cases ach:∀ x∈o.bE,tD M.objs.length x
  ·rw[lW ach]at k;refine ay k ?_;conv=>whnf
   exact⟨jQ ⟨ach,acb⟩,x_ h⟩
  ·rw[eN ach]at k;refine ay k ?_;conv=>whnf
   exact⟨iO λhx=>ach hx.1,x_ h⟩
 ·rw[eN acb]at kc;refine ay kc ?_;conv=>whnf
  exact⟨iO λhx=>acb hx.2,x_ h⟩
theorem aew (a:Ask h bu bm b5 b6 p cc q d u po co pf cf ps cs M):Pure prog 113 [acH bm,acH bu,acH b5] h (tf (∀ o∈M.objs,RY u M.objs.length o)):=by
 obtain⟨t,U⟩:=a.kbm;have k:=adH M.objs _ bu b5 (λo=>RY u M.objs.length o) h a.objs (λx _ xs hx=>ad9 a x xs hx);refine acJ au func113 ae1 ae2 rfl ?_;conv=>whnf
 refine ld (ec U rfl) ?_;conv=>whnf
 refine ay k ?_;conv=>whnf
 exact⟨rfl,x_ h⟩
theorem aex (a:Ask h bu bm b5 b6 p cc q d u po co pf cf ps cs M):Pure prog 116 [acH bm,acH b6] h (tf (∀ f∈M.ag,EW u M.objs.length f)):=by
 obtain⟨t,U⟩:=a.kbm;obtain⟨t6,Ah⟩:=a.kb6;have k:=adX M.ag _ bu b5 (λf=>EW u M.objs.length f) h a.ag (λx _ xs hx=>aeq a x xs hx);refine acJ au func116 ae7 ae8 rfl ?_;conv=>whnf
 refine ld (ec U rfl) ?_;conv=>whnf
 refine ld (ec Ah rfl) ?_;conv=>whnf
 refine ay k ?_;conv=>whnf
 exact⟨rfl,x_ h⟩
theorem aea (a:Ask h bu bm b5 b6 p cc q d u po co pf cf ps cs M):Pure prog 118 [acH b5,acH bm] h (tf (tD M.objs.length M.out/\aaG M)):=by
 obtain⟨t,U⟩:=a.kbm;obtain⟨t5,qw⟩:=a.kb5;have kv:=a.val M.out;have ke:=ad6 (.slice po M.objs.length co) (.slice ps M.said.length cs) pf cf M h;unfold bR at kv;unfold aB at ke;have r2:eG h bm 5 2=some [.bool M.out.ref,.int .i64 M.out.n]:=bP U 2 5 (by simp);have r7:eG h bm 0 7=some _:=bP U 7 0 (by simp);refine acJ au func118 afb afc rfl ?_;conv=>whnf
 refine ld (ec qw rfl) ?_;conv=>whnf
 refine dK r2 ?_;conv=>whnf
 by_cases ach:tD M.objs.length M.out
 ·rw[lW ach]at kv;refine ay kv ?_;conv=>whnf
  refine dK r7 ?_;conv=>whnf
  by_cases acd:aaG M
  ·rw[lW acd]at ke;refine ay ke ?_;conv=>whnf
   exact⟨jQ ⟨ach,acd⟩,x_ h⟩
  ·rw[eN acd]at ke;refine ay ke ?_;conv=>whnf
   exact⟨iO λhx=>acd hx.2,x_ h⟩
 ·rw[eN ach]at kv;refine ay kv ?_;conv=>whnf
  exact⟨iO λhx=>ach hx.1,x_ h⟩
def asks (bu bm b5 b6:Nat):List Value:=[.func (.func 105) #[] #[acH bm],.func (.func 106) #[] #[acH bm],.func (.func 107) #[] #[acH bm],.func (.func 108) #[] #[acH bm],.func (.func 110) #[] #[acH bm],.func (.func 113) #[] #[acH bm,acH bu,acH b5],.func (.func 116) #[] #[acH bm,acH b6],.func (.func 118) #[] #[acH b5,acH bm]]
def acQ (u:aU) (M:bZ):List Prop:=[0<=M.steps/\M.steps<=200,7<=M.objs.length/\M.objs.length<=207,M.ag.length<=4/\M.said.length<=200,∀ n∈M.said,isWord n=true,∀ o∈M.objs.take 7,o.cls=1,∀ o∈M.objs,RY u M.objs.length o,∀ f∈M.ag,EW u M.objs.length f,tD M.objs.length M.out/\aaG M]
theorem adC (u:aU) (M:bZ):(∀ c∈acQ u M,c)↔zC u M:=by
 rw[acK];simp only[acQ,List.mem_cons,List.not_mem_nil,or_false,forall_eq_or_imp,forall_eq];constructor
 ·rintro⟨c1,c2,c3,c4,c5,c6,c7,c8⟩;refine⟨⟨c1,c2,c3.1,c3.2⟩,c8.1,λi hi=>⟨c6 _ (w_ hi),λh7=>c5 _ ?_⟩,c7,c4,c8.2⟩;rw[List.mem_take_iff_getElem];exact⟨i,by omega,rfl⟩
 ·rintro⟨⟨c1,c2,c3,c4⟩,c5,c6,c7,c8,c9⟩;refine⟨c1,c2,⟨c3,c4⟩,c8,λo ho=>?_,λo ho=>?_,c7,c5,c9⟩
  ·rw[List.mem_take_iff_getElem]at ho;obtain⟨i,hi,rfl⟩:=ho;exact(c6 i (by omega)).2 (by omega)
  ·obtain⟨i,hi,rfl⟩:=List.mem_iff_getElem.1 ho;exact(c6 i hi).1
theorem aeb (a:Ask h bu bm b5 b6 p cc q d u po co pf cf ps cs M) {ab7:Nat} {t8:TypeId} (h8:h ab7=some (.cells (asks bu bm b5 b6).toArray t8 (0,0))):Pure prog 104 [.slice (some ⟨ab7,0,none⟩) 8 8] h (tf (zC u M)):=by
 refine acJ au func104 aeL aeM rfl ?_;conv=>whnf
 refine fm [5,6,7] [] (λi:Nat=>i<=8/\∀ c∈(acQ u M).take i,c) (λi=>8-i)
  (λi=>([.v (.slice (some ⟨ab7,0,none⟩) 8 8),.v (.int .i64 8),.v (.int .i64 i)],[],h)) 0 ⟨V_ _,by simp⟩ rfl ?_
 rintro i ⟨hi,hj⟩;conv=>whnf
 apply ax<;>intro g;all_goals conv=>whnf
 ·have cG:i < (acQ u M).length:=by simp[acQ];omega
  have adj:(acQ u M)[i]->∀ c∈(acQ u M).take (i+1),c:=λhc=>take_one (Q:=λc=>c) cG hj hc;have no:¬(acQ u M)[i]->¬zC u M:=λhc hm=>hc ((adC u M).2 hm _ (w_ cG));have hi8:i=0\/i=1\/i=2\/i=3\/i=4\/i=5\/i=6\/i=7:=by omega
  refine aq ?_;conv=>whnf
  refine ptr ?_;conv=>whnf
  rcases hi8 with rfl|rfl|rfl|rfl|rfl|rfl|rfl|rfl
  ·refine ld (ec (i:=0) h8 rfl) ?_;conv=>whnf
   refine acG (aer a) (λaci=>?_) (λaci=>?_)
   ·conv=>whnf
    refine aj ?_;conv=>whnf
    exact dm (0+1) ⟨by omega,adj aci⟩ (by omega) rfl
   ·conv=>whnf
    exact⟨iO (no aci),x_ h⟩
  ·refine ld (ec (i:=1) h8 rfl) ?_;conv=>whnf
   refine acG (aes a) (λaci=>?_) (λaci=>?_)
   ·conv=>whnf
    refine aj ?_;conv=>whnf
    exact dm (1+1) ⟨by omega,adj aci⟩ (by omega) rfl
   ·conv=>whnf
    exact⟨iO (no aci),x_ h⟩
  ·refine ld (ec (i:=2) h8 rfl) ?_;conv=>whnf
   refine acG (aet a) (λaci=>?_) (λaci=>?_)
   ·conv=>whnf
    refine aj ?_;conv=>whnf
    exact dm (2+1) ⟨by omega,adj aci⟩ (by omega) rfl
   ·conv=>whnf
    exact⟨iO (no aci),x_ h⟩
  ·refine ld (ec (i:=3) h8 rfl) ?_;conv=>whnf
   refine acG (aeu a) (λaci=>?_) (λaci=>?_)
   ·conv=>whnf
    refine aj ?_;conv=>whnf
    exact dm (3+1) ⟨by omega,adj aci⟩ (by omega) rfl
   ·conv=>whnf
    exact⟨iO (no aci),x_ h⟩
  ·refine ld (ec (i:=4) h8 rfl) ?_;conv=>whnf
   refine acG (aev a (hj (7<=M.objs.length/\M.objs.length<=207) (by simp[acQ])).1) (λaci=>?_) (λaci=>?_)
   ·conv=>whnf
    refine aj ?_;conv=>whnf
    exact dm (4+1) ⟨by omega,adj aci⟩ (by omega) rfl
   ·conv=>whnf
    exact⟨iO (no aci),x_ h⟩
  ·refine ld (ec (i:=5) h8 rfl) ?_;conv=>whnf
   refine acG (aew a) (λaci=>?_) (λaci=>?_)
   ·conv=>whnf
    refine aj ?_;conv=>whnf
    exact dm (5+1) ⟨by omega,adj aci⟩ (by omega) rfl
   ·conv=>whnf
    exact⟨iO (no aci),x_ h⟩
  ·refine ld (ec (i:=6) h8 rfl) ?_;conv=>whnf
   refine acG (aex a) (λaci=>?_) (λaci=>?_)
   ·conv=>whnf
    refine aj ?_;conv=>whnf
    exact dm (6+1) ⟨by omega,adj aci⟩ (by omega) rfl
   ·conv=>whnf
    exact⟨iO (no aci),x_ h⟩
  ·refine ld (ec (i:=7) h8 rfl) ?_;conv=>whnf
   refine acG (aea a) (λaci=>?_) (λaci=>?_)
   ·conv=>whnf
    refine aj ?_;conv=>whnf
    exact dm (7+1) ⟨by omega,adj aci⟩ (by omega) rfl
   ·conv=>whnf
    exact⟨iO (no aci),x_ h⟩
 ·have:i=8:=by omega
  subst this;exact⟨jQ ((adC u M).1 (by simpa [acQ]using hj)),x_ h⟩
end
theorem adZ (us mc:List Value) (u:aU) (M:bZ) (h:Heap) (hu:dL h us u) (hT:eC u) (hM:RH h mc M):Pure prog 56 [.agg ⟨us⟩,.agg ⟨mc⟩] h (tf (zC u M)):=by
 obtain⟨p,cc,q,d,rfl,hcs,fM,jN,hl2⟩:=hu.form;obtain⟨vo,vf,vs,rfl,w1,w2,w3⟩:=hM;obtain⟨po,co,rfl,OZ,PD⟩:=w1.len;obtain⟨pf,cf,rfl,hcf,Qn⟩:=w2.len;obtain⟨ps,cs,rfl,hcS,hns⟩:=w3.len;unfold aB;refine acJ au func56 F56 afz rfl ?_;conv=>whnf
 refine dI [.slice p u.J.length cc,.slice q u.methods.length d] rfl (λbu h1 hbu e1 l1 g1=>?_);conv=>whnf
 refine dI [.slice po M.objs.length co,.slice pf M.ag.length cf,.slice ps M.said.length cs,.int .i64 M.steps,.int .i64 M.fin,.bool M.out.ref,.int .i64 M.out.n] rfl (λbm h2 iq e2 l2 g2=>?_);conv=>whnf
 refine dI [.nilFunc] rfl (λb5 h3 qw e3 l3 g3=>?_);conv=>whnf
 refine z7 g3 [.func (.func 99) #[] #[acH bm]] (by simp) rfl (λh4 e4 g4=>?_);conv=>whnf
 refine dI [.nilFunc] rfl (λb6 h5 Ah e5 l5 g5=>?_);conv=>whnf
 refine z7 g5 [.func (.func 101) #[] #[acH bu,acH b5]] (by simp) rfl (λh6 e6 g6=>?_);conv=>whnf
 refine dI (asks bu bm b5 b6) rfl (λab7 h7 YH e7 l7 g7=>?_);have n35:h4 b6=none:=Ah;have k4:∀ z,z≠b5->h4 z=h3 z:=λz hz=>by rw[e4];simp[Heap.set,hz]
 have k6:∀ z,z≠b6->h6 z=h5 z:=λz hz=>by rw[e6];simp[Heap.set,hz]
 have l24:h2.le h4:=λz o ho=>by
  rw[k4 z (by rintro rfl;rw[qw]at ho;cases ho)];exact l3 z o ho
 have l46:h4.le h6:=λz o ho=>by
  rw[k6 z (by rintro rfl;rw[Ah]at ho;cases ho)];exact l5 z o ho
 have l27:=ww l24 (ww l46 l7);have l07:h.le h7:=ww l1 (ww l2 l27);have a:Ask h7 bu bm b5 b6 p cc q d u po co pf cf ps cs M:=⟨⟨_,l27 _ _ (l2 _ _ g1)⟩,⟨_,l27 _ _ g2⟩,⟨_,l7 _ _ (l46 _ _ g4)⟩,⟨_,l7 _ _ g6⟩,hcs.le l07 (λ_ _ hx=>hx.le l07),fM.le l07 (λ_ _ hx=>hx.le l07),w1.le l07 (λ_ _ hx=>ObQ.le l07 hx),w2.le l07 (λ_ _ hx=>abu.le l07 hx),w3.le l07 (λ_ _ hx=>hx),hT⟩
 conv=>whnf
 refine ay (aeb a g7) ?_;conv=>whnf
 exact⟨rfl,l07⟩
theorem ad0 (us mc:List Value) (u:aU) (M:bZ) (h:Heap) (hu:dL h us u) (hM:RH h mc M):Pure prog 27 [.agg ⟨us⟩,.agg ⟨mc⟩] h (tf (eC u/\zC u M)):=by
 have hUn:=Jn us u h hu;have hMo:=λhT=>adZ us mc u M h hu hT hM;obtain⟨p,cc,q,d,rfl,hcs,fM,jN,hl2⟩:=hu.form;obtain⟨vo,vf,vs,rfl,w1,w2,w3⟩:=hM;obtain⟨po,co,rfl,OZ,PD⟩:=w1.len;obtain⟨pf,cf,rfl,hcf,Qn⟩:=w2.len;obtain⟨ps,cs,rfl,hcS,hns⟩:=w3.len;unfold aB at hMo ⊢;refine acJ au func27 F27 afs rfl ?_;conv=>whnf
 refine acG hUn (λhT=>?_) (λhT=>?_)
 ·conv=>whnf
  refine acG (hMo hT) (λhm=>?_) (λhm=>?_)
  ·conv=>whnf
   exact⟨jQ ⟨hT,hm⟩,x_ h⟩
  ·conv=>whnf
   exact⟨iO λhx=>hm hx.2,x_ h⟩
 ·conv=>whnf
  exact⟨iO λhx=>hT hx.1,x_ h⟩
open Go.Vc Go.Proofs.Tryz
set_option maxRecDepth 100000
set_option maxHeartbeats 4000000
def acT (u:aU) (M R:bZ):Prop:=(eC u/\zC u M->R=gY u M)/\(¬(eC u/\zC u M)->R=mL)
theorem adI (u:aU) (M:bZ):∃ R,acT u M R:=by
 by_cases h:eC u/\zC u M
 ·exact⟨_,λ_=>rfl,λhn=>absurd h hn⟩
 ·exact⟨mL,λhp=>absurd hp h,λ_=>rfl⟩
theorem adk (us mc:List Value) (u:aU) (M:bZ) (h:Heap) (hu:dL h us u) (hM:xZ h mc M) (hQ:RH h mc M) (R:bZ) (xo:acT u M R):bI prog 22 [.agg ⟨us⟩,.agg ⟨mc⟩] h (Nl h R):=by
 have hOk:=ad0 us mc u M h hu hQ;have step:=λhT hI=>EV mc us u M h hM hu hT hI;obtain⟨p,cc,q,d,rfl,hcs,fM,jN,hl2⟩:=hu.form;obtain⟨vo,vf,vs,rfl,w1,w2,w3⟩:=hQ;obtain⟨po,co,rfl,OZ,PD⟩:=w1.len;obtain⟨pf,cf,rfl,hcf,Qn⟩:=w2.len;obtain⟨ps,cs,rfl,hcS,hns⟩:=w3.len;unfold aB at hOk step ⊢;refine bS au func22 F22 afp rfl ?_;conv=>whnf
 refine acG hOk (λhP=>?_) (λhP=>?_);all_goals conv=>whnf
 ·rw[xo.1 hP];refine aD (step hP.1 (λhf=>hP.2.Qx hP.1 hf)) (λv h1 hh=>?_);obtain⟨l1,F5,B,rfl,own,nd,fr⟩:=hh;obtain⟨_,_,_,_,_,_,rfl⟩:=own.kr;unfold kr aB at own ⊢;conv=>whnf
  exact⟨l1,_,B,rfl,own,nd,fr⟩
 ·rw[xo.2 hP];exact⟨x_ h,_,[],rfl,yK h,λ_=>by simp,by simp⟩
theorem adl (us mc:List Value) (u:aU) (M:bZ) (h:Heap) (hu:dL h us u) (hM:xZ h mc M) (hQ:RH h mc M) (R:bZ) (xo:acT u M R):bI prog 24 [.agg ⟨us⟩,.agg ⟨mc⟩] h (Nl h R):=by
 have hOk:=ac4 us mc u M h hu hQ;have step:=λfs f hT hI hf eZ=>Hx mc us u M h fs f hM hu hT hI hf eZ;have copy:=Ag mc M h hM;obtain⟨p,cc,q,d,rfl,hcs,fM,jN,hl2⟩:=hu.form;obtain⟨vo,vf,vs,rfl,w1,w2,w3⟩:=hQ;obtain⟨po,co,rfl,OZ,PD⟩:=w1.len;obtain⟨pf,cf,rfl,hcf,Qn⟩:=w2.len;obtain⟨ps,cs,rfl,hcS,hns⟩:=w3.len;unfold aB at hOk step copy ⊢;refine bS au func24 F24 afq rfl ?_;conv=>whnf
 refine acG hOk (λhP=>?_) (λhP=>?_);all_goals conv=>whnf
 ·rw[xo.1 hP];have hm:=hP.2;have l1:=hm.steps.2;have l2:=hm.len.2;have l3:=hm.pU;have stay:(M.fin≠0\/M.steps=200\/M.objs.length=207\/M.said.length=200)->gY u M=M:=λdZ=>by
   unfold gY;rw[if_pos (by omega)]
  have go:¬(M.fin≠0\/M.steps=200\/M.objs.length=207\/M.said.length=200)->∃ fs f,M.ag=fs++[f]/\M.fin=0/\pV u fs f M=gY u M:=λdZ=>by
   have cD:M.ag≠[]:=by
    rcases hm.fin with h1|h1|h1
    ·exact h1.2.1
    ·omega
    ·omega
   rcases List.eq_nil_or_concat M.ag with e|⟨gs,gl,e⟩
   ·exact absurd e cD
   ·have e:M.ag=gs++[gl]:=by simpa using e
    exact⟨gs,gl,e,by omega,(Gk e (by omega)).symm⟩
  clear hm;repeat' ((first|apply ax<;>intro _|apply aV<;>intro _)<;>conv=>whnf)
  all_goals first
   | (
    rw[stay (by omega)];refine aD copy (λv h1 hh=>?_);obtain⟨l1,F5,B,rfl,own,nd,fr⟩:=hh;obtain⟨_,_,_,_,_,_,rfl⟩:=own.kr;unfold kr aB at own ⊢;conv=>whnf
    exact⟨l1,_,B,rfl,own,nd,fr⟩)
   | (
    obtain⟨fs,f,hf,h0,e⟩:=go (by omega);rw[<-e];refine aD (step fs f hP.1 hP.2 hf h0) (λv h1 hh=>?_);obtain⟨l1,F5,B,rfl,own,nd,fr⟩:=hh;obtain⟨_,_,_,_,_,_,rfl⟩:=own.kr;unfold kr aB at own ⊢;conv=>whnf
    exact⟨l1,_,B,rfl,own,nd,fr⟩)
 ·rw[xo.2 hP];exact⟨x_ h,_,[],rfl,yK h,λ_=>by simp,by simp⟩
def ab0 (a b:List Ob):Prop:=a.length<=b.length/\b.length<=a.length+1/\∃ j,∀ i (hi:i < a.length),∃ o,b[i]? = some o/\o.cls=a[i].cls/\o.bE.length=a[i].bE.length/\(i≠j\/b.length=a.length+1->o.bE=a[i].bE)
theorem ab0.refl (a:List Ob):ab0 a a:=⟨Nat.le_refl _,by omega,0,λi hi=>⟨a[i],v_ hi,rfl,rfl,λ_=>rfl⟩⟩
theorem ab0.more (a:List Ob) (o:Ob):ab0 a (a++[o]):=⟨by simp,by simp,0,λi hi=>⟨a[i],by rw[List.getElem?_append_left hi,v_ hi],rfl,rfl,λ_=>rfl⟩⟩
theorem ab0.put (a:List Ob) (n:Int) (k:Int) (v:Vl):ab0 a (iQ a n (putAt (aF a n).bE k v)):=by
 unfold iQ;refine⟨by simp,by simp,(n-1).toNat,λi hi=>?_⟩;by_cases e:(n-1).toNat=i
 ·subst e;have aco:aF a n=a[(n-1).toNat]:=by unfold aF;rw[u_,v_ hi];rfl
  refine⟨_,by rw[List.getElem?_set_self hi],by simp only;rw[aco],by simp only[putAt,List.length_set];rw[aco],λh=>?_⟩;rcases h with h|h
  ·exact absurd rfl h
  ·simp at h
 ·exact⟨a[i],by rw[List.getElem?_set_ne e,v_ hi],rfl,rfl,λ_=>rfl⟩
theorem acY {u:aU} {x:dX} {aS:List Vl} {objs o':List Ob} {f f':bU} (h:bH u x aS objs f=.ok (o',f')):ab0 objs o':=by
 have dD:∀ {n:Int} {b:Bool} {o:Ob},ef objs n b=.ok o->o=aF objs n:=λ{n b o} h=>by
  unfold ef at h;repeat' split at h
  all_goals first
   | (cases h;done)
   | (simp only[Z_]at h;exact h.symm)
 have Ow:∀ {y:Vl} {k n:Int} {o:Ob},qB objs y k n=.ok o->o=aF objs y.n:=λ{y k n o} h=>by
  unfold qB at h;split at h
  ·cases h
  ·rename_i o2 h2;split at h
   ·simp only[Z_]at h;subst h;exact dD h2
   ·cases h
 unfold bH at h;simp only[uf]at h;repeat' split at h
 all_goals first
  | (cases h;done)
  | (have:=yH h;subst this;first|exact ab0.more _ _|exact ab0.refl _)
  | (rename_i h1;have e:=Ow h1;simp only[Z_,Prod.mk.injEq]at h;obtain⟨rfl,_⟩:=h;rw[e];exact ab0.put _ _ _ _)
  | (rename_i h1;have e:=dD h1;simp only[Z_,Prod.mk.injEq]at h;obtain⟨rfl,_⟩:=h;rw[e];exact ab0.put _ _ _ _)
  | (simp only[Z_,Prod.mk.injEq]at h;obtain⟨rfl,_⟩:=h;exact ab0.refl _)
theorem ac5 {u:aU} {x:dX} {aS:List Vl} {objs o':List Ob} {f g:bU} {said jJ:List Int} {p9:Bool} {C:List Ob->bU->Prop} (h0:C objs f) (nr:∀ i v,C objs {f with locals:=f.locals.set i v}) (uw:∀ {f1 f2:bU} {v:Vl} {o:List Ob},C objs f1->di objs f1 v=.ok (o,f2)->C objs f2)
  (dD:∀ {o:List Ob} {g:bU},bH u x aS objs f=.ok (o,g)->C o g) (h:gK u x aS objs f said=.ok (o',g,jJ,p9)):C o' g:=by
 have hp:∀ {f1:bU} {v:Vl},C objs f1->eV objs f1 said v=.ok (o',g,jJ,p9)->C o' g:=by
  intro f1 v hC h;obtain⟨o,g1,h1,e⟩:=vL h;simp only[Prod.mk.injEq]at e;obtain⟨rfl,rfl,_⟩:=e;have:=uw hC h1;rw[yH h1];exact this
 have hs:∀ {s:List Int} {f1:bU} {b:Bool},C objs f1->(Except.ok (objs,f1,s,b):RV)=.ok (o',g,jJ,p9)->C o' g:=by
  intro s f1 b hC e;simp only[Z_,Prod.mk.injEq]at e;obtain⟨rfl,rfl,_⟩:=e;exact hC
 unfold gK at h;simp only at h;by_cases k1:x.kind=1
 ·rw[if_pos k1]at h;exact hp h0 h
 rw[if_neg k1]at h;by_cases k2:x.kind=2
 ·rw[if_pos k2]at h;exact hp h0 h
 rw[if_neg k2]at h;by_cases k3:x.kind=3
 ·rw[if_pos k3]at h;exact hp h0 h
 rw[if_neg k3]at h;by_cases k4:x.kind=4
 ·rw[if_pos k4]at h;exact hs (nr _ _) h
 rw[if_neg k4]at h;by_cases k5:x.kind=5
 ·rw[if_pos k5]at h;exact hs h0 h
 rw[if_neg k5]at h;by_cases k6:x.kind=6
 ·rw[if_pos k6]at h;split at h
  ·rename_i h1;exact hp (uw h0 h1) h
  ·cases h
 rw[if_neg k6]at h;by_cases k7:x.kind=7
 ·rw[if_pos k7]at h;split at h
  ·exact hp h0 h
  ·cases h
 rw[if_neg k7]at h;by_cases k8:x.kind=8
 ·rw[if_pos k8]at h;exact hs h0 h
 rw[if_neg k8]at h;by_cases k9:x.kind=9
 ·rw[if_pos k9]at h;exact hs h0 h
 rw[if_neg k9]at h;by_cases D3:x.kind=10
 ·rw[if_pos D3]at h;exact hs h0 h
 rw[if_neg D3]at h;by_cases OM:x.kind=11
 ·rw[if_pos OM]at h;exact hs h0 h
 rw[if_neg OM]at h;by_cases Db:x.kind=24
 ·rw[if_pos Db]at h;exact hs h0 h
 rw[if_neg Db]at h;split at h
 ·rename_i o1 g1 h1;simp only[Z_,Prod.mk.injEq]at h;obtain⟨rfl,rfl,_⟩:=h;exact dD h1
 ·cases h
theorem aec {u:aU} {x:dX} {aS:List Vl} {objs o':List Ob} {f g:bU} {said jJ:List Int} {p9:Bool} (h:gK u x aS objs f said=.ok (o',g,jJ,p9)):ab0 objs o' :=
 ac5 (C:=λo _=>ab0 objs o) (ab0.refl _) (λ_ _=>ab0.refl _) (λh _=>h) (λh=>acY h) h
theorem aey {u:aU} {fs:List bU} {f:bU} {M M':bZ} (h:lz u fs f M=.ok M'):ab0 M.objs M'.objs:=by
 have same:∀ {N:bZ},N.objs=M.objs->ab0 M.objs N.objs:=λhN=>by rw[hN];exact ab0.refl _
 unfold lz at h;simp only at h;split at h
 ·cases h
 ·split at h
  ·cases h
  ·split at h
   ·unfold jk at h;simp only[uj]at h;repeat' split at h
    all_goals first
     | (cases h;done)
     | (have hc:=Fc h;exact same hc.1)
     | (simp only[Z_]at h;subst h;first|exact same rfl|exact same wK.1)
   ·split at h
    ·cases h
    ·rename_i objs g said p9 hm;simp only[Z_]at h;subst h;exact aec hm
theorem ad1 (u:aU) (M:bZ):ab0 M.objs (gY u M).objs:=by
 unfold gY;split
 ·exact ab0.refl _
 ·split
  ·exact ab0.refl _
  ·split
   ·rename_i M' h;show ab0 M.objs M'.objs;exact aey h
   ·split
    ·exact ab0.refl _
    ·show ab0 M.objs (cK u _ M).objs;rw[wK.1];exact ab0.refl _
def ab2 (f:bU):Prop:=f.locals.length<=1000/\f.stack.length<=1000
def ab6 (l:List Ob):Prop:=∀ o∈l,o.bE.length<=1000
theorem adm {objs o':List Ob} {f f':bU} {v:Vl} (hf:ab2 f) (h:di objs f v=.ok (o',f')):ab2 f':=by
 unfold di at h;split at h
 ·simp only[Z_,Prod.mk.injEq]at h;obtain⟨_,rfl⟩:=h;exact⟨hf.1,by simp;omega⟩
 ·cases h
theorem adw {u:aU} {x:dX} {aS:List Vl} {objs o':List Ob} {f f':bU} (hc:cj u.J) (hx:x.kind=12->x.a < u.J.length) (hv:ab6 objs) (hf:ab2 f) (h:bH u x aS objs f=.ok (o',f')):ab6 o'/\ab2 f':=by
 have ic:ab0 objs o'->o'.length=objs.length->ab6 o':=λch e o ho=>by
  obtain⟨i,hi,rfl⟩:=List.mem_iff_getElem.1 ho;obtain⟨_,_,j,hj⟩:=ch;obtain⟨o2,e1,_,e2,_⟩:=hj i (by omega);rw[v_ hi]at e1;simp only[Option.some.injEq]at e1;rw[e1,e2];exact hv _ (w_ _)
 have hch:=acY h;have add:∀(l:List Int) (k:Int),l.length<=1000->ab6 (objs++[⟨k,l.map nothing⟩]):=λl k hl o ho=>by
  rcases List.mem_append.1 ho with ho|ho
  ·exact hv o ho
  ·rw[List.mem_singleton.1 ho];simpa using hl
 unfold bH at h;simp only[uf]at h;repeat' split at h
 all_goals first
  | (cases h;done)
  | (have e:=yH h;have fb:=adm hf h;subst e;refine⟨?_,fb⟩;first|exact hv|(refine add _ _ ?_;have:=fH hc (hx (by assumption));omega)|(refine add _ _ ?_;simp only[List.length_replicate];omega))
  | (simp only[Z_,Prod.mk.injEq]at h;obtain⟨rfl,rfl⟩:=h;exact⟨ic hch (by simp[iQ]),hf⟩)
  | (simp only[Z_,Prod.mk.injEq]at h;obtain⟨rfl,rfl⟩:=h;exact⟨hv,hf⟩)
theorem adD {u:aU} (hu:eC u) (k:Int):(br u k).locals<=3:=by
 unfold br;rw[u_];cases h:u.methods[k.toNat]? with
 | none=>simp[VN]
 | some m=>exact(hu.2.2.2.1 m (List.mem_of_getElem? h)).1.2.2.2.2.1
structure ab4 (n:Nat) (M:bZ):Prop where
 ob:ab6 M.objs
 fr:∀ f∈M.ag,ab2 f
 nf:M.ag.length<=n
theorem ac6 {u:aU} {k:Int} {n:Nat} {M:bZ} (h:ab4 n M):ab4 n (cK u k M):=by
 unfold cK;split
 ·rename_i l hl;obtain⟨l1,f,r,c,e,_,rfl⟩:=wF hl;have hm:∀ g,g∈l1++f::r->ab2 g:=λg hg=>h.fr g (by rw[<-e]at hg;simpa using hg);have hlen:=congrArg List.length e;simp only[List.length_reverse,W_,List.length_cons]at hlen;refine⟨h.ob,λg hg=>?_,by simp;have:=h.nf;omega⟩;simp only[List.mem_reverse,List.mem_cons]at hg;rcases hg with rfl|hg
  ·exact⟨(hm f (by simp)).1,by simp⟩
  ·exact hm g (by simp[hg])
 ·exact⟨h.ob,by simp,by simp⟩
theorem adn {u:aU} (hu:eC u) {to:Int} {aS:List Vl} {M M':bZ} {n:Nat} (ht:aS.length<=1000) (hM:ab4 n M) (h:jI u to aS M=.ok M'):ab4 (n+1) M':=by
 unfold jI at h;split at h
 ·cases h
 ·simp only[Z_]at h;subst h;refine⟨hM.ob,λg hg=>?_,by simp;have:=hM.nf;omega⟩;rcases List.mem_append.1 hg with hg|hg
  ·exact hM.fr g hg
  ·rw[List.mem_singleton.1 hg];have:=adD hu to;exact⟨by simp[gW];omega,by simp[gW]⟩
theorem aez {u:aU} (hu:eC u) {M M':bZ} {fs:List bU} {f:bU} {n:Nat} (hM:ab4 n M) (gA:M.ag=fs++[f]) (hm:0<=f.ah/\f.ah < u.methods.length) (D0:0<=f.pc) (h:lz u fs f M=.ok M'):ab4 (n+1) M':=by
 have G7:ab2 f:=hM.fr f (by rw[gA];simp);have sF:∀ g∈fs,ab2 g:=λg hg=>hM.fr g (by rw[gA];simp[hg]);have Qn:=hM.nf;rw[gA,W_,List.length_singleton]at Qn;unfold lz at h;simp only at h;split at h
 ·cases h
 rename_i iS;have hx:∀ x,x=(br u f.ah).code.getD f.pc.toNat dW->x.kind=12->x.a < u.J.length:=λx e hk=>by
  have hl:f.pc.toNat < (br u f.ah).code.length:=by omega
  have e2:x=(br u f.ah).code[f.pc.toNat]:=by rw[e,u_,v_ hl];rfl
  have hI:=(hu.br hm).2.1.2.2.2.1 x (by rw[e2];exact w_ hl);obtain⟨kind,a,b⟩:=x;simp only at hk;subst hk;have:=(aI (p:=5) (q:=0) rfl).1 hI;simp[bA]at this;show a < u.J.length;omega
 generalize hxe:(br u f.ah).code.getD f.pc.toNat dW=x at h;have hx:=hx x hxe.symm;split at h
 ·cases h
 rename_i aS rest ht;obtain⟨ws,_,_,_,dZ⟩:=mq ht;have hlen:=congrArg List.length dZ;rw[W_]at hlen;have h2:=G7.2;have N1:ab2 {f with stack:=rest}:=⟨G7.1,by simp only;omega⟩
 have A3:ab4 n {M with ag:=fs++[{f with stack:=rest}]}:=⟨hM.ob,λg hg=>by
  rcases List.mem_append.1 hg with hg|hg
  ·exact sF g hg
  ·rw[List.mem_singleton.1 hg];exact N1,by simp only[W_,List.length_singleton];omega⟩
 have up:∀ {N:bZ},ab4 n N->ab4 (n+1) N:=λ{N} h=>⟨h.ob,h.fr,by have:=h.nf;omega⟩
 split at h
 ·unfold jk at h;simp only at h;split at h
  ·exact adn hu (by omega) A3 h
  split at h
  ·split at h
   ·cases h
   ·exact adn hu (by omega) A3 h
  split at h
  ·unfold uj at h;split at h
   ·simp only[Z_]at h;subst h;exact⟨hM.ob,by simp,by simp⟩
   ·rename_i g hg;split at h
    ·simp only[Z_]at h;subst h;have RW:g∈fs:=List.mem_of_getLast? hg;refine⟨hM.ob,λk hk=>?_,by simp;omega⟩;rcases List.mem_append.1 hk with hk|hk
     ·exact sF k (List.dropLast_subset _ hk)
     ·rw[List.mem_singleton.1 hk];exact⟨(sF g RW).1,by simp;omega⟩
    ·cases h
  split at h
  ·split at h
   ·cases h
   ·simp only[Z_]at h;subst h;exact up (ac6 A3)
  ·simp only[Z_]at h;subst h;exact up A3
 ·split at h
  ·cases h
  ·rename_i objs g said p9 fY;simp only[Z_]at h;subst h;have:=ac5 (C:=λo g=>ab6 o/\ab2 g) ⟨hM.ob,N1⟩ (λi v=>⟨hM.ob,by simpa [ab2]using N1⟩) (λhC hp=>⟨hC.1,adm hC.2 hp⟩) (λdD=>adw hu.1 hx hM.ob N1 dD) fY;refine⟨this.1,λk hk=>?_,by simp;omega⟩;rcases List.mem_append.1 hk with hk|hk
   ·exact sF k hk
   ·rw[List.mem_singleton.1 hk];exact this.2
theorem ad2 {u:aU} (hu:eC u) {M:bZ} {n:Nat} (h:zC u M) (hM:ab4 n M):ab4 (n+1) (gY u M):=by
 have up:∀ {N:bZ} {s f:Int} {n:Nat},ab4 n N->ab4 (n+1) {N with steps:=s,fin:=f}:=λ{N _ _ _} h=>⟨h.ob,h.fr,by have:=h.nf;simp only;omega⟩
 unfold gY;split
 ·exact⟨hM.ob,hM.fr,by have:=hM.nf;omega⟩
 split
 ·exact⟨hM.ob,hM.fr,by have:=hM.nf;omega⟩
 rename_i f sP;have gA:M.ag=M.ag.dropLast++[f]:=by
  have cD:M.ag≠[]:=by intro hx;rw[hx]at sP;cases sP
  have:=List.dropLast_concat_getLast cD;rw[List.getLast?_eq_some_getLast cD]at sP;simp only[Option.some.injEq]at sP;rw[sP]at this;exact this.symm
 have hF:=h.jy f (List.mem_of_getLast? sP);split
 ·rename_i M' hd;have:=aez hu hM gA hF.1 hF.2.1.1 hd;exact⟨this.ob,this.fr,this.nf⟩
 ·split
  ·exact up (f:=3) hM
  ·have:=ac6 (u:=u) (k:=‹Int›) hM;exact⟨this.ob,this.fr,by have:=this.nf;simp only;omega⟩
theorem adx {u:aU} (hu:eC u) {M:bZ} (h:zC u M):Lx (gY u M):=by
 have hs:=h.small hu;have t0:ab4 4 M:=⟨λo ho=>by
  rcases(h.objs o ho).2 with ⟨_,h2⟩|⟨_,h2,h3⟩
  ·omega
  ·have:=fH hu.1 h2;omega,λf hf=>by
  have hF:=h.jy f hf;have:=adD hu f.ah;have:=hF.2.2.1;have:=hF.2.2.2.1;exact⟨by omega,by omega⟩,h.nf⟩
 have t:=ad2 hu h t0;obtain⟨c1,c2,_⟩:=ad1 u M;have l1:=h.len.2;have l2:=h.pU;refine⟨by unfold Lu;omega,λo ho=>by have:=t.ob o ho;unfold Lv Lu;omega,by have:=t.nf;unfold Lu;omega,λf hf=>by have:=t.fr f hf;unfold Lw Lu ab2 at *;omega,?_⟩;rcases yI (u:=u) (M:=M)with e|e
 ·rw[e.1];unfold Lu;omega
 ·have:=e.2.2.1;unfold Lu;omega
theorem acT.NZ {u:aU} {M R:bZ} (xo:acT u M R):Lx R:=by
 by_cases hP:eC u/\zC u M
 ·rw[xo.1 hP];exact adx hP.1 hP.2
 ·rw[xo.2 hP];exact⟨by simp[mL,Lu],by simp[mL],by simp[mL,Lu],by simp[mL],by simp[mL,Lu]⟩
def vtT (objs:List Ob) (v:Vl):Int:=if v.ref=false then 1 else if v.n=0 then 2 else typeOf (aF objs v.n).cls
def ady (cs:List dR) (objs:List Ob) (l:List Vl) (ts:List Int):Prop:=l.length<=ts.length/\∀ i (h1:i < l.length) (h2:i < ts.length),ju cs (vtT objs l[i]) ts[i]=true
theorem ade {u:aU} {M:bZ} (hT:eC u) (h:zC u M) {k:Int} (h0:0 < k) (h1:k<=M.objs.length) : -2<=(aF M.objs k).cls/\(aF M.objs k).cls < u.J.length:=by
 have h2:=hT.1.1;have hl:(k-1).toNat < M.objs.length:=by omega
 have e:aF M.objs k=M.objs[(k-1).toNat]:=by unfold aF;rw[u_,v_ hl];rfl
 rw[e];rcases(h.objs _ (w_ hl)).2 with h3|h3<;>omega
theorem ad3 {u:aU} {M:bZ} (hT:eC u) (h:zC u M) {v:Vl} (hv:tD M.objs.length v):0<=vtT M.objs v/\vtT M.objs v < 8+(u.J.length:Int):=by
 have h2:=hT.1.1;unfold vtT;split
 ·omega
 ·rename_i hr;have:=hv.1 (by simpa using hr);split
  ·omega
  ·have:=ade hT h (k:=v.n) (by omega) this.2;unfold typeOf;split
   ·omega
   ·split<;>omega
theorem ac7 (u:aU) (M:bZ) (p:Option Addr) (c:Nat) (v:Vl) (h:Heap) (ho:Row 2 ObQ h (.slice p M.objs.length c) M.objs) (hT:eC u) (hM:zC u M) (hv:tD M.objs.length v):Pure prog 61 [.slice p M.objs.length c,.agg #[.bool v.ref,.int .i64 v.n]] h (.int .i64 (vtT M.objs v)):=by
 have hlen:=hM.len;have h5:=hT.1.2.1;refine acJ au func61 F61 ZM rfl ?_;conv=>whnf
 cases hr:v.ref
 ·conv=>whnf
  exact⟨by unfold vtT;rw[if_pos hr],x_ h⟩
 ·have hn:=hv.1 hr;conv=>whnf
  apply ax<;>intro g;all_goals conv=>whnf
  ·exact⟨by unfold vtT;rw[if_neg (by simp[hr]),if_pos g],x_ h⟩
  ·have hl:(v.n-1).toNat < M.objs.length:=by omega
   have e:aF M.objs v.n=M.objs[(v.n-1).toNat]:=by unfold aF;rw[u_,v_ hl];rfl
   obtain⟨b,off,xs,hp,r1,m1⟩:=ho.get hl;obtain⟨w,rfl,_⟩:=m1;have ra:=aK r1 (i:=0) rfl;have hc:=ade hT hM (k:=v.n) (by omega) hn.2;have hvt:vtT M.objs v=typeOf (aF M.objs v.n).cls:=by unfold vtT;rw[if_neg (by simp[hr]),if_neg g]
   rw[e]at hc hvt;unfold typeOf at hvt;repeat' ((first|apply ax<;>intro _|refine aO hp ?_|refine aq ?_|refine aj ?_|refine ld ra ?_)<;>conv=>whnf)
   all_goals exact⟨by rw[hvt];repeat' split<;>first|rfl|(exfalso;omega),x_ h⟩
theorem acZ (us:List Value) (u:aU) (M:bZ) (p:Option Addr) (c:Nat) (v w:Value) (l:List Vl) (ts:List Int) (h:Heap) (hu:dL h us u) (ho:Row 2 ObQ h (.slice p M.objs.length c) M.objs) (hT:eC u) (hM:zC u M) (hv:Row 2 Sd h v l) (hl:∀ x∈l,tD M.objs.length x) (hw:cT h w ts) (ht:∀ t∈ts,t < 8+(u.J.length:Int)) :
  Pure prog 58 [.agg ⟨us⟩,.slice p M.objs.length c,v,w] h (tf (ady u.J M.objs l ts)):=by
 obtain⟨p1,cc,q,d,rfl,hcs,fM,jN,hl2⟩:=hu.form;obtain⟨pv,cv,rfl,hc,hn⟩:=hv.len;obtain⟨pw,cw,rfl,hd,hm⟩:=hw.len;refine acJ au func58 F58 afB rfl ?_;conv=>whnf
 apply ax<;>intro g;all_goals conv=>whnf
 ·exact⟨iO λhx=>by have:=hx.1;omega,x_ h⟩
 refine fm [1,2,3,4,9] [4] (λi:Nat=>i<=l.length/\∀ j (h1:j < l.length) (h2:j < ts.length),j < i->ju u.J (vtT M.objs l[j]) ts[j]=true) (λi=>l.length-i)
  (λi=>([.v (.slice p M.objs.length c),.v (.slice pv l.length cv),.v (.slice pw ts.length cw),.l 4 0,.v (.int .i64 i)],[some [.slice p1 u.J.length cc,.slice q u.methods.length d]],h)) 0 ⟨V_ _,λ_ _ _ h=>absurd h (by omega)⟩ rfl ?_
 rintro i ⟨hi,hj⟩;conv=>whnf
 apply ax<;>intro g;all_goals conv=>whnf
 ·have cG:i < l.length:=by omega
  have YQ:i < ts.length:=by omega
  obtain⟨b,off,xs,hp,r1,m1⟩:=hv.get cG;obtain⟨b',dU,ys,LF,r2,m2⟩:=hw.get YQ;have hlw:=hl _ (w_ cG);have k1:=ac7 u M p c l[i] h ho hT hM hlw;have k2:=vG p1 u.J.length cc u.J (vtT M.objs l[i]) ts[i] h hcs hT.1 (ad3 hT hM hlw).2 (ht _ (w_ YQ));obtain rfl:=m1;obtain⟨rfl,_⟩:=m2;have rb:=aK r2 (i:=0) rfl;repeat' ((first|refine aO hp ?_|refine aO LF ?_|refine aq ?_|refine dK r1 ?_|refine ld rb ?_|apply Y_|exact trivial)<;>conv=>whnf)
  refine aT k1 ?_;conv=>whnf
  repeat' ((first|refine aO LF ?_|refine aq ?_|refine ld rb ?_|apply Y_|exact trivial)<;>conv=>whnf)
  by_cases acg:ju u.J (vtT M.objs l[i]) ts[i]=true
  ·rw[acg]at k2;refine aT k2 ?_;conv=>whnf
   refine aj ?_;conv=>whnf
   exact dm (i+1) ⟨by omega,λj h1 h2 h3=>by
    by_cases jv:j=i
    ·subst jv;exact acg
    ·exact hj j h1 h2 (by omega)⟩ (by omega) rfl
  ·rw[show ju u.J (vtT M.objs l[i]) ts[i]=false by simpa using acg]at k2;refine aT k2 ?_;conv=>whnf
   exact⟨iO λhx=>acg (hx.2 i cG YQ),x_ h⟩
 ·exact⟨jQ ⟨by omega,λj h1 h2=>hj j h1 h2 (by omega)⟩,x_ h⟩
theorem eC.unV {u:aU} (hu:eC u):HI u:=⟨hu.1,λm hm=>by
 have h:=(hu.2.2.2.1 m hm).1;exact⟨by have:=h.2.1;omega,h.2.2.2.1,h.2.2.1⟩⟩
theorem qy.msT {u:aU} {m:cB} (h:qy u m):YL u m where
 mi:=⟨h.1,⟨h.2.1.1,h.2.1.2.1⟩,h.2.1.2.2.2.1,h.2.2⟩
 num:=h.2.1.2.2.1
 val s hs ht:=by
  rcases h.2.1.2.2.2.2 s hs with ⟨e,_⟩|⟨_,h2,h3,h4,h5⟩
  ·rw[ht]at e;cases e
  ·exact⟨h2,λt ht=>by have:=h4 t ht;unfold jo at this;omega,λt ht=>by have:=(h5 t ht).2;unfold jo at this;omega,h3⟩
theorem ac8 {u:aU} {m:cB} (hV:HI u) (hM:YL u m):∀(k i:Nat) (s:dH) (comes:Bool) (out:List dH),i+k=m.code.length->uJ u.J.length m.locals s->(∀ r∈out,uJ u.J.length m.locals r)->∀ r∈(m9 u m k i s comes out).1,uJ u.J.length m.locals r
 | 0,_,_,_,_,_,_,ho=>ho
 | k+1,i,s,comes,out,hi,hs,ho=>by
  have cG:i < m.code.length:=by omega
  have OJ:uJ u.J.length m.locals (if (iR m i).told=true then iR m i else s):=by
   split
   ·rename_i ht;have hl:i < m.aL.length:=by rw[hM.num];exact cG
    have e:iR m i=m.aL[i]:=by unfold iR;rw[Int.toNat_natCast];exact pI hl
    rw[e]at ht ⊢;exact hM.val _ (w_ hl) ht
   ·exact hs
  have hx:eH u m (fQ m i):=by
   have e:fQ m i=m.code[i]:=by unfold fQ;rw[Int.toNat_natCast];exact pI cG
   rw[e];exact hM.mi.code _ (w_ cG)
  have EI:∀ r∈out++[if (iR m i).told=true then iR m i else s],uJ u.J.length m.locals r:=λr hr=>by
   rcases List.mem_append.1 hr with hr|hr
   ·exact ho r hr
   ·rw[List.mem_singleton.1 hr];exact OJ
  rw[m9];generalize (if (iR m i).told=true then iR m i else s)=s' at OJ EI;split
  ·exact ho
  ·split
   ·exact ho
   ·split
    ·exact EI
    ·rename_i nx dZ;split
     ·have:=ac8 hV hM k (i+1) nx (!kW (fQ m i)) (out++[s']) (by omega) (uN hV OJ hx _ dZ).1 EI;simpa using this
     ·exact EI
theorem adJ {u:aU} (hu:eC u) {m:cB} (hm:qy u m):∀ r∈(j8 u m).1,uJ u.J.length m.locals r :=
 ac8 hu.unV hm.msT _ 0 _ _ _ (by omega) (uK hm.1 hu.1.2.1) (by simp)
def acI (u:aU) (o:Ob):List Int:=if 0<=o.cls then cX u.J o.cls else List.replicate o.bE.length (if o.cls = -2 then 8 else 1)
theorem ac0 {u:aU} {m:cB} {x:dX} (hx:eH u m x):(x.kind=20->0<=x.a/\x.a < u.methods.length)/\(x.kind=21->0<=x.a/\x.a < u.J.length):=by
 obtain⟨kind,a,b⟩:=x;refine⟨λhk=>?_,λhk=>?_⟩
 ·simp only at hk;subst hk;have:=(aI (p:=7) (q:=0) rfl).1 hx;simp[bA]at this;exact this.1.1
 ·simp only at hk;subst hk;have:=(aI (p:=5) (q:=9) rfl).1 hx;simp[bA]at this;exact this.1
theorem ac9 {u:aU} (hT:eC u) {o:Ob} (hc:o.cls < u.J.length) (hl:o.bE.length<=1000):(∀ t∈acI u o,cL t/\t < 8+(u.J.length:Int))/\(acI u o).length<=1000:=by
 have h2:=hT.1.1;have h5:=hT.1.2.1;unfold acI;split
 ·refine⟨λt ht=>?_,by have:=fH hT.1 hc;omega⟩;have:=gq (rN hT.1 (o.cls.toNat+1) (by omega) hc t ht);unfold cL;omega
 ·refine⟨λt ht=>?_,by simpa using hl⟩;have e:=(List.mem_replicate.1 ht).2;unfold cL;split at e<;>omega
theorem ado {K:Value->Heap->Prop} {E:List PanicEntry->Heap->Prop} (us xs:List Value) (u:aU) (o:Ob) (h:Heap) (hu:dL h us u) (hT:eC u) (ho:ObQ h xs o) (hc:o.cls < u.J.length) (hl:o.bE.length<=1000)
  (hK:∀ h' p c,h.le h'->cT h' (.slice p (acI u o).length c) (acI u o)->K (.slice p (acI u o).length c) h'):jA prog 59 [.agg ⟨us⟩,.agg ⟨xs⟩] h K E:=by
 obtain⟨hi,cG⟩:=ac9 hT hc hl;obtain⟨p,cc,q,d,rfl,hcs,fM,jN,hl2⟩:=hu.form;obtain⟨v,rfl,hv⟩:=ho;obtain⟨pv,cv,rfl,_,_⟩:=hv.len;have main:bI prog 59 [.agg #[.slice p u.J.length cc,.slice q u.methods.length d],.agg #[.int .i64 o.cls,.slice pv o.bE.length cv]] h λv h'=>h.le h'/\∃ B,dV h' v (acI u o) B:=by
  refine bS au func59 F59 afC rfl ?_;conv=>whnf
  apply ax<;>intro g;all_goals conv=>whnf
  ·refine aD (lZ _ p u.J.length cc u.J o.cls h hcs hT.1 g hc (Nat.lt_succ_self _)) (λv h1 hh=>?_);obtain⟨l1,B,own,_⟩:=hh;conv=>whnf
   exact⟨l1,B,by unfold acI;rw[if_pos g];exact own⟩
  ·have go:∀ t,(if o.cls = -2 then (8:Int)else 1)=t->acI u o=List.replicate o.bE.length t:=λt ht=>by unfold acI;rw[if_neg g,ht]
   generalize acI u o=T at go;apply ax<;>intro g2;all_goals conv=>whnf
   ·skip
    rw[(go 8 (if_pos g2))];refine dI [] rfl (λb0 h1 uY e0 l1 g0=>?_);conv=>whnf
    refine fm [3,5,6] [3] (λs:Nat × Heap × Option Addr × Nat × List Nat=>s.1<=o.bE.length/\h.le s.2.1/\dV s.2.1 (.slice s.2.2.1 s.1 s.2.2.2.1) (List.replicate s.1 8) s.2.2.2.2/\∀ b∈s.2.2.2.2,h b=none) (λs=>o.bE.length-s.1)
     (λs=>([.l 3 0,.v (.int .i64 8),.v (.slice s.2.2.1 s.1 s.2.2.2.1)],[some [.int .i64 o.cls,.slice pv o.bE.length cv]],s.2.1)) (0,h1,some ⟨b0,0,none⟩,0,[b0]) ⟨V_ _,l1,dP g0,by simpa using uY⟩ rfl ?_
    rintro⟨i,h2,pp,cp,B⟩ ⟨IE,le2,own,fr⟩;simp only at IE le2 own fr ⊢;conv=>whnf
    apply ax<;>intro g3;all_goals conv=>whnf
    ·refine cY (h0:=h) (xs:=(List.replicate i 8).map bO) (ys:=[bO 8]) own fr le2 rfl rfl (by simp[bO]) rfl rfl (by simp;omega) (by simp;omega) (λv' h3 B' k1 k2 k3 k4 k5=>?_);have zn:dV h3 v' (List.replicate (i+1) 8) B':=by
      unfold dV;rw[List.replicate_succ',List.map_append];exact k2
     have hf:=cn.form zn;obtain⟨p',c',rfl,_⟩:=hf;rw[List.length_map,List.length_replicate]at zn ⊢;conv=>whnf
     exact dm (i+1,h3,p',c',B') ⟨by simp only;omega,k1,zn,k3⟩ (by simp only;omega) rfl
    ·have nV:i=o.bE.length:=by omega
     subst nV;exact⟨le2,B,own⟩
   ·skip
    rw[(go 1 (if_neg g2))];refine dI [] rfl (λb0 h1 uY e0 l1 g0=>?_);conv=>whnf
    refine fm [3,5,6] [3] (λs:Nat × Heap × Option Addr × Nat × List Nat=>s.1<=o.bE.length/\h.le s.2.1/\dV s.2.1 (.slice s.2.2.1 s.1 s.2.2.2.1) (List.replicate s.1 1) s.2.2.2.2/\∀ b∈s.2.2.2.2,h b=none) (λs=>o.bE.length-s.1)
     (λs=>([.l 3 0,.v (.int .i64 1),.v (.slice s.2.2.1 s.1 s.2.2.2.1)],[some [.int .i64 o.cls,.slice pv o.bE.length cv]],s.2.1)) (0,h1,some ⟨b0,0,none⟩,0,[b0]) ⟨V_ _,l1,dP g0,by simpa using uY⟩ rfl ?_
    rintro⟨i,h2,pp,cp,B⟩ ⟨IE,le2,own,fr⟩;simp only at IE le2 own fr ⊢;conv=>whnf
    apply ax<;>intro g3;all_goals conv=>whnf
    ·refine cY (h0:=h) (xs:=(List.replicate i 1).map bO) (ys:=[bO 1]) own fr le2 rfl rfl (by simp[bO]) rfl rfl (by simp;omega) (by simp;omega) (λv' h3 B' k1 k2 k3 k4 k5=>?_);have zn:dV h3 v' (List.replicate (i+1) 1) B':=by
      unfold dV;rw[List.replicate_succ',List.map_append];exact k2
     have hf:=cn.form zn;obtain⟨p',c',rfl,_⟩:=hf;rw[List.length_map,List.length_replicate]at zn ⊢;conv=>whnf
     exact dm (i+1,h3,p',c',B') ⟨by simp only;omega,k1,zn,k3⟩ (by simp only;omega) rfl
    ·have nV:i=o.bE.length:=by omega
     subst nV;exact⟨le2,B,own⟩
 exact cE main λv h' hh=>by
  obtain⟨l1,B,own⟩:=hh;obtain⟨p',c',rfl,_⟩:=cn.form own;have hr:=eW own (by omega) (λt ht=>(hi t ht).1);rw[hr.1];exact⟨l1,hK h' p' c' l1 hr.2⟩
def acF (u:aU) (f:bU):dX:=(br u f.ah).code.getD f.pc.toNat dW
def acR (u:aU) (f:bU):dH:=(j8 u (br u f.ah)).1.getD f.pc.toNat mO
def toF (u:aU) (x:dX):Int:=if x.kind=21 then find u x.a x.b else x.a
structure FrT (u:aU) (M:bZ) (i:Nat) (f:bU):Prop where
 ok:(j8 u (br u f.ah)).2=true
 pc:f.pc < (j8 u (br u f.ah)).1.length
 loc:ady u.J M.objs f.locals (acR u f).locals
 cA:ady u.J M.objs f.stack (acR u f).stack
 top:i+1=M.ag.length->f.stack.length=(acR u f).stack.length
 low:i+1 < M.ag.length->0<=cx u (acF u f)/\(f.stack.length:Int)=(acR u f).stack.length-cx u (acF u f)
 ans:∀(h:i+1 < M.ag.length),ju u.J (br u M.ag[i+1].ah).out (br u (toF u (acF u f))).out=true
theorem acW {u:aU} {k:Int} (h:0<=k/\k < u.methods.length):u.methods[k.toNat]'(by omega)=br u k:=by
 unfold br;rw[u_,v_ (by omega)];rfl
theorem aed (u:aU) (c s:Int) (hm:1<=u.methods.length):∀ k,nQ u s k c < u.methods.length:=by
 intro k;induction k generalizing c with
 | zero=>rw[nQ];omega
 | succ k ih =>
  rw[nQ];split
  ·split
   ·rcases ya (c:=c) (s:=s) u.methods 0 with h|h<;>omega
   ·exact ih _
  ·omega
theorem adf (us:List Value) (u:aU) (M:bZ) (vo vs:Value) (pf:Option Addr) (cf:Nat) (i:Nat) (h:Heap) (hu:dL h us u) (hT:eC u) (hM:zC u M) (hf:Row 4 abu h (.slice pf M.ag.length cf) M.ag) (hi:i+1 < M.ag.length)
  (D0:M.ag[i].pc < (br u M.ag[i].ah).code.length) (hk:(acF u M.ag[i]).kind=20\/(acF u M.ag[i]).kind=21/\0<=find u (acF u M.ag[i]).a (acF u M.ag[i]).b) :
  Pure prog 122 [.agg ⟨us⟩,.agg ⟨aB vo (.slice pf M.ag.length cf) vs M⟩,.int .i64 i] h (.bool (ju u.J (br u M.ag[i+1].ah).out (br u (toF u (acF u M.ag[i]))).out)):=by
 have iJ:=hu;have Qn:=hM.nf;obtain⟨p,cc,q,d,rfl,hcs,fM,jN,hl2⟩:=hu.form;obtain⟨b,off,xs,hp,r1,m1⟩:=hf.get (i:=i) (by omega);obtain⟨b2,GQ,ys,E2,r2,m2⟩:=hf.get hi;rw[hp]at E2;simp only[Option.some.injEq,Addr.mk.injEq,and_true]at E2;obtain⟨rfl,rfl⟩:=E2;have hF:=hM.jy _ (w_ (show i < M.ag.length by omega));have hG:=hM.jy _ (w_ hi);generalize M.ag[i]=f at m1 D0 hk hF ⊢;generalize M.ag[i+1]=g at m2 hG ⊢;obtain⟨w1,w2,rfl,e1,e2⟩:=m1;obtain⟨_,_,rfl,_,_⟩:=e1.len;obtain⟨_,_,rfl,_,_⟩:=e2.len;obtain⟨w3,w4,rfl,_⟩:=m2;have hm:=hF.1;have HO:=hF.2.1.1;have RW:=hG.1;obtain⟨bm,om,oW,hq,k1,n1⟩:=fM.get (i:=f.ah.toNat) (by omega);obtain⟨bm',om',vt,Jj,k2,n2⟩:=fM.get (i:=g.ah.toNat) (by omega);rw[hq]at Jj;simp only[Option.some.injEq,Addr.mk.injEq,and_true]at Jj;obtain⟨rfl,rfl⟩:=Jj;rw[acW hm]at n1;rw[acW RW]at n2;obtain⟨_,_,_,_,rfl,_,_,_,_,_,w6,_⟩:=n1;obtain⟨pc1,cc1,rfl,_,_⟩:=w6.len;obtain⟨_,_,_,_,rfl,_⟩:=n2;have iS:f.pc.toNat < (br u f.ah).code.length:=by omega
 have ei:acF u f=(br u f.ah).code[f.pc.toNat]:=by unfold acF;rw[u_,v_ iS];rfl
 obtain⟨bc,oc,ws,hc,r3,i3⟩:=w6.get iS;obtain⟨rfl,_⟩:=i3;rw[<-ei]at r3;have hx:eH u (br u f.ah) (acF u f):=by rw[ei];exact(hT.br hm).2.1.2.2.2.1 _ (w_ iS)
 have aee:=ac0 hx;generalize acF u f=x at hk r3 aee ⊢;have kf:=λh0 hl=>tX _ u x.a x.b h iJ hT.1 h0 hl;have Il:0<=toF u x/\toF u x < u.methods.length:=by
  unfold toF;rcases hk with G0|⟨LJ,h0⟩
  ·rw[if_neg (by omega)];exact aee.1 G0
  ·rw[if_pos LJ];exact⟨h0,aed u x.a x.b hT.2.1.1 _⟩
 obtain⟨bm',om',vt,Jj,k3,n3⟩:=fM.get (i:=(toF u x).toNat) (by omega);rw[hq]at Jj;simp only[Option.some.injEq,Addr.mk.injEq,and_true]at Jj;obtain⟨rfl,rfl⟩:=Jj;rw[acW Il]at n3;obtain⟨_,_,_,_,rfl,_⟩:=n3;have o1:=(hT.br RW).1.2.2.1;have o2:=(hT.br Il).1.2.2.1;have kl:=vG p u.J.length cc u.J (br u g.ah).out (br u (toF u x)).out h hcs hT.1 (by unfold cR at o1;have:=hT.1.1;omega) (by unfold cR at o2;have:=hT.1.1;omega);have la:=aK k1 (i:=5) rfl;have lb:=aK k2 (i:=3) rfl;have lc:=aK k3 (i:=3) rfl;have ld0:=aK r2 (i:=0) rfl;refine acJ au func122 aff afg rfl ?_;unfold aB;conv=>whnf
 repeat' ((first|refine aO hp ?_|refine aO hq ?_|refine aO hc ?_|refine aq ?_|refine dK r1 ?_|refine dK r3 ?_|refine ld la ?_|apply Y_|exact trivial)<;>conv=>whnf)
 rcases hk with G0|⟨LJ,h0⟩
 ·have et:toF u x=x.a:=by unfold toF;rw[if_neg (by omega)]
  rw[et]at lc kl Il ⊢;refine bL ?_;conv=>whnf
  repeat' ((first|refine aO hp ?_|refine aO hq ?_|refine aq ?_|refine ld ld0 ?_|refine ld lb ?_|refine ld lc ?_|refine aj ?_|apply Y_|exact trivial)<;>conv=>whnf)
  all_goals refine aT kl ?_
  all_goals conv=>whnf
  all_goals exact⟨rfl,x_ h⟩
 ·have et:toF u x=find u x.a x.b:=by unfold toF;rw[if_pos LJ]
  rw[et]at lc kl Il ⊢;refine b8 ?_;conv=>whnf
  refine ay (kf (by have:=aee.2 LJ;omega) (aee.2 LJ).2) ?_;generalize find u x.a x.b=k at lc kl Il ⊢;conv=>whnf
  repeat' ((first|refine aO hp ?_|refine aO hq ?_|refine aq ?_|refine ld ld0 ?_|refine ld lb ?_|refine ld lc ?_|refine aj ?_|apply Y_|exact trivial)<;>conv=>whnf)
  all_goals refine aT kl ?_
  all_goals conv=>whnf
  all_goals exact⟨rfl,x_ h⟩
theorem acU {u:aU} {m:cB}:∀(k:Nat) (i:Int) (s:dH) (comes:Bool) (out:List dH),(m9 u m k i s comes out).1.length<=out.length+k
 | 0,_,_,_,_=>by rw[m9];simp
 | k+1,i,s,comes,out=>by
  rw[m9];generalize (if (iR m i).told=true then iR m i else s)=s';split
  ·show out.length<=_;omega
  ·split
   ·show out.length<=_;omega
   ·split
    ·show(out++[s']).length<=_;simp only[W_,List.length_singleton];omega
    ·rename_i nx _;split
     ·have:=acU k (i+1) nx (!kW (fQ m i)) (out++[s']) (u:=u) (m:=m);simp only[W_,List.length_singleton]at this;omega
     ·show(out++[s']).length<=_;simp only[W_,List.length_singleton];omega
theorem adp (u:aU) (m:cB):(j8 u m).1.length<=m.code.length:=by
 have:=acU m.code.length 0 (jl m) true [] (u:=u) (m:=m);simpa [j8]using this
theorem adz {u:aU} {x:dX} (h:0<=cx u x):x.kind=20\/x.kind=21/\0<=find u x.a x.b:=by
 unfold cx at h;split at h
 ·left;assumption
 ·split at h
  ·right
   refine⟨by assumption,?_⟩;split at h
   ·assumption
   ·omega
  ·omega
theorem adq {u:aU} (hu:eC u) (k:Int):(br u k).args.length<=2:=by
 unfold br;rw[u_];cases h:u.methods[k.toNat]? with
 | none=>simp[VN]
 | some m=>exact(hu.2.2.2.1 m (List.mem_of_getElem? h)).1.2.1
theorem adA {u:aU} (hu:eC u) (x:dX):cx u x<=100:=by
 unfold cx;have h1:=adq hu x.a;have h2:=adq hu (find u x.a x.b);repeat' split
 all_goals omega
theorem ac1 (us:List Value) (u:aU) (M:bZ) (po:Option Addr) (co:Nat) (vs:Value) (pf:Option Addr) (cf:Nat) (i:Nat) (h:Heap) (hu:dL h us u) (hT:eC u) (hM:zC u M) (ho:Row 2 ObQ h (.slice po M.objs.length co) M.objs) (hf:Row 4 abu h (.slice pf M.ag.length cf) M.ag) (hs:∃ p c,vs=.slice p M.said.length c) (hi:i < M.ag.length) :
  bI prog 60 [.agg ⟨us⟩,.agg ⟨aB (.slice po M.objs.length co) (.slice pf M.ag.length cf) vs M⟩,.int .i64 i] h λv h'=>h.le h'/\∃ b:Bool,v=.bool b/\(b=true->FrT u M i M.ag[i]):=by
 have iJ:=hu;have Qn:=hM.nf;obtain⟨psd,csd,rfl⟩:=hs;have adK:=λh1 (hl:h.le h1) IE D0 hk=>adf us u M (.slice po M.objs.length co) (.slice psd M.said.length csd) pf cf i h1 (iJ.le hl) hT hM (hf.le hl λ_ _ hx=>abu.le hl hx) IE D0 hk;obtain⟨p,cc,q,d,rfl,hcs,fM,jN,hl2⟩:=hu.form;obtain⟨b,off,xs,hp,r1,m1⟩:=hf.get hi;have hF:=hM.jy _ (w_ hi);generalize hfe:M.ag[i]=f at m1 hF adK ⊢;obtain⟨w1,w2,rfl,e1,e2⟩:=m1;have hm:=hF.1;have HO:=hF.2.1.1;have kA1:=λh1 (hl:h.le h1) w ts hw ht=>acZ _ u M po co w1 w f.locals ts h1 (iJ.le hl) (ho.le hl λ_ _ hx=>ObQ.le hl hx) hT hM (e1.le hl λ_ _ hx=>hx) hF.2.2.2.2.1 hw ht;have kA2:=λh1 (hl:h.le h1) w ts hw ht=>acZ _ u M po co w2 w f.stack ts h1 (iJ.le hl) (ho.le hl λ_ _ hx=>ObQ.le hl hx) hT hM (e2.le hl λ_ _ hx=>hx) hF.2.2.2.2.2 hw ht;obtain⟨pl,cl,rfl,_,_⟩:=e1.len;obtain⟨pk,ck,rfl,_,OT⟩:=e2.len;obtain⟨bm,om,oW,hq,k1,n1⟩:=fM.get (i:=f.ah.toNat) (by omega);rw[acW hm]at n1;have Hg:=hT.br hm;have acu:=DB _ oW u (br u f.ah) h iJ n1 hT.unV Hg.msT;have hV:=adJ hT Hg;have hSl:=adp u (br u f.ah);obtain⟨q1,z1,q2,z2,q3,z3,q4,z4,rfl,_,_,_,_,_,w6,_⟩:=n1.form;have la:=aK k1 (i:=5) rfl;have aeA:∀(iS:f.pc.toNat < (br u f.ah).code.length),acF u f=(br u f.ah).code[f.pc.toNat]:=λiS=>by unfold acF;rw[u_,v_ iS];rfl
 have acq:=λh1 (hl:h.le h1) (iS:f.pc.toNat < (br u f.ah).code.length)=>wI _ u (acF u f).kind (acF u f).a (acF u f).b h1 (iJ.le hl) hT.1 (ac0 (m:=br u f.ah) (by rw[aeA iS];exact Hg.2.1.2.2.2.1 _ (w_ iS))).1 (ac0 (m:=br u f.ah) (by rw[aeA iS];exact Hg.2.1.2.2.2.1 _ (w_ iS))).2;refine bS au func60 F60 afD rfl ?_;unfold aB at adK ⊢;conv=>whnf
 repeat' ((first|refine aO hp ?_|refine aO hq ?_|refine aq ?_|refine dK r1 ?_|refine dK k1 ?_|apply Y_|exact trivial)<;>conv=>whnf)
 refine cE acu (λv h1 hh=>?_);obtain⟨l1,sl,rfl,qb⟩:=hh;obtain⟨acz,acf,rfl,_,_⟩:=qb.len;refine⟨l1,?_⟩;have kA1:=kA1 h1 l1;have kA2:=kA2 h1 l1;cases ez:(j8 u (br u f.ah)).2
 ·conv=>whnf
  exact⟨l1,false,rfl,nofun⟩
 conv=>whnf
 apply ax<;>intro YF;all_goals conv=>whnf
 ·exact⟨l1,false,rfl,nofun⟩
 have fV:f.pc.toNat < (j8 u (br u f.ah)).1.length:=by omega
 have esh:acR u f=(j8 u (br u f.ah)).1[f.pc.toNat]:=by unfold acR;rw[u_,v_ fV];rfl
 have iS:f.pc.toNat < (br u f.ah).code.length:=by omega
 obtain⟨ab8,acx,ws,hpS,acD,acw⟩:=qb.get fV;have hsv:=hV _ (w_ fV);rw[<-esh]at acw hsv;obtain⟨y1,y2,rfl,s1,s2⟩:=acw;have kA1:=kA1 y1 _ s1 (λt ht=>(hsv.fK t ht).2);have kA2:=kA2 y2 _ s2 (λt ht=>(hsv.cA t ht).2);obtain⟨py1,cy1,rfl,_,_⟩:=s1.len;obtain⟨py2,cy2,rfl,_,Im⟩:=s2.len;repeat' ((first|refine aO hpS ?_|refine aq ?_|refine dK acD ?_)<;>conv=>whnf)
 refine acG kA1 (λcA1=>?_) (λcA1=>?_);all_goals conv=>whnf
 rotate_left
 ·exact⟨l1,false,rfl,nofun⟩
 refine acG kA2 (λcA2=>?_) (λcA2=>?_);all_goals conv=>whnf
 rotate_left
 ·exact⟨l1,false,rfl,nofun⟩
 refine aj ?_;conv=>whnf
 apply ax<;>intro gt;all_goals conv=>whnf
 ·exact⟨l1,_,rfl,λU=>⟨ez,by omega,cA1,cA2,λ_=>by have:=of_decide_eq_true U;omega,λh=>by omega,λh=>by omega⟩⟩
 have IE:i+1 < M.ag.length:=by omega
 have acq:=acq h1 l1 iS;have k1':=bK l1 k1;obtain⟨bc,oc,wi,hc,r3,i3⟩:=(w6.le l1 λ_ _ hx=>hx).get iS;obtain⟨rfl,_⟩:=i3;rw[<-aeA iS]at r3;have la:=aX l1 la;have adK:=λhk=>adK h1 l1 IE (by rw[hfe];omega) hk;rw[hfe]at adK;repeat' ((first|refine aO hq ?_|refine aO hc ?_|refine aq ?_|refine ld la ?_|refine dK r3 ?_|apply Y_|exact trivial)<;>conv=>whnf)
 refine aT acq ?_;have acm:cx u ⟨(acF u f).kind,(acF u f).a,(acF u f).b⟩=cx u (acF u f):=rfl;rw[acm];have fI:=λh0=>adz (u:=u) (x:=acF u f) h0;have zW:cx u (acF u f)<=100:=adA hT _;generalize QK:cx u (acF u f)=acj at fI zW ⊢;conv=>whnf
 apply ax<;>intro gn;all_goals conv=>whnf
 rotate_left
 ·exact⟨l1,false,rfl,nofun⟩
 refine aj ?_;conv=>whnf
 apply ax<;>intro ge;all_goals conv=>whnf
 rotate_left
 ·exact⟨l1,false,rfl,nofun⟩
 refine ay (adK (fI gn)) ?_;conv=>whnf
 exact⟨l1,_,rfl,λU=>⟨ez,by omega,cA1,cA2,λh=>by omega,λ_=>⟨by rw[QK];exact gn,by rw[QK];omega⟩,λ_=>U⟩⟩
def ael (u:aU):Prop:=∀ m∈u.methods,(j8 u m).2=true
theorem adL (us:List Value) (u:aU) (h:Heap) (hu:dL h us u) (hT:eC u):Pure prog 57 [.agg ⟨us⟩] h (tf (ael u)):=by
 have iJ:=hu;obtain⟨p,cc,q,d,rfl,hcs,fM,jN,hl2⟩:=hu.form;refine acJ au func57 F57 afA rfl ?_;conv=>whnf
 refine fm [1,3] [1] (λs:Nat × Heap=>s.1<=u.methods.length/\h.le s.2/\∀ m∈u.methods.take s.1,(j8 u m).2=true) (λs=>u.methods.length-s.1)
  (λs=>([.l 1 0,.v (.int .i64 s.1)],[some [.slice p u.J.length cc,.slice q u.methods.length d]],s.2)) (0,h) ⟨V_ _,x_ h,by simp⟩ rfl ?_
 rintro⟨i,h1⟩ ⟨hi,l1,hj⟩;simp only at hi l1 hj ⊢;conv=>whnf
 apply ax<;>intro g;all_goals conv=>whnf
 ·have cG:i < u.methods.length:=by omega
  have PX:=fM.le l1 λ_ _ hx=>hx.le l1;obtain⟨bm,om,oW,hq,k1,n1⟩:=PX.get cG;have Hg:=hT.2.2.2.1 _ (w_ cG);have acu:=DB _ oW u u.methods[i] h1 (iJ.le l1) n1 hT.unV Hg.msT;obtain⟨q1,z1,q2,z2,q3,z3,q4,z4,rfl,_⟩:=n1.form;repeat' ((first|refine aO hq ?_|refine aq ?_|refine dK k1 ?_|apply Y_|exact trivial)<;>conv=>whnf)
  refine cE acu (λv h2 hh=>?_);obtain⟨l2,sl,rfl,qb⟩:=hh;obtain⟨acz,acf,rfl,_,_⟩:=qb.len;refine⟨l2,?_⟩;cases ez:(j8 u u.methods[i]).2
  ·conv=>whnf
   exact⟨iO (λhx=>by have:=hx _ (w_ cG);rw[ez]at this;cases this),ww l1 l2⟩
  ·conv=>whnf
   refine aj ?_;conv=>whnf
   exact dm (i+1,h2) ⟨by simp only;omega,ww l1 l2,take_one cG hj ez⟩ (by simp only;omega) rfl
 ·have nV:i=u.methods.length:=by omega
  subst nV;rw[List.take_length]at hj;exact⟨jQ hj,l1⟩
structure aeB (u:aU) (M:bZ):Prop where
 unit:eC u
 ok:zC u M
 pass:ael u
 fin:M.fin≠3
 objs:∀ o∈M.objs,ady u.J M.objs o.bE (acI u o)
 ag:∀ i (hi:i < M.ag.length),FrT u M i M.ag[i]
theorem adr (us mc:List Value) (u:aU) (M:bZ) (h:Heap) (hu:dL h us u) (hQ:RH h mc M):bI prog 29 [.agg ⟨us⟩,.agg ⟨mc⟩] h λv h'=>h.le h'/\∃ b:Bool,v=.bool b/\(b=true->aeB u M):=by
 have iJ:=hu;have hOk:=ac4 us mc u M h hu hQ;have acs:=λhT=>adL us u h hu hT;obtain⟨p,cc,q,d,rfl,hcs,fM,jN,hl2⟩:=hu.form;obtain⟨vo,vf,vs,rfl,w1,w2,w3⟩:=hQ;obtain⟨po,co,rfl,OZ,PD⟩:=w1.len;obtain⟨pf,cf,rfl,hcf,Qn⟩:=w2.len;obtain⟨ps,cs,rfl,hcS,hns⟩:=w3.len;unfold aB at hOk ⊢;refine bS au func29 F29 aft rfl ?_;conv=>whnf
 refine acG hOk (λhP=>?_) (λhP=>?_);all_goals conv=>whnf
 rotate_left
 ·exact⟨x_ h,false,rfl,nofun⟩
 refine acG (acs hP.1) (λhPs=>?_) (λhPs=>?_);all_goals conv=>whnf
 rotate_left
 ·exact⟨x_ h,false,rfl,nofun⟩
 apply ax<;>intro g3;all_goals conv=>whnf
 ·exact⟨x_ h,false,rfl,nofun⟩
 have hlen:=hP.2.len;refine fm [2,3,5] [2,3] (λs:Nat × Heap=>s.1<=M.objs.length/\h.le s.2/\∀ o∈M.objs.take s.1,ady u.J M.objs o.bE (acI u o)) (λs=>M.objs.length-s.1)
  (λs=>([.l 2 0,.l 3 0,.v (.int .i64 s.1)],[some [.slice p u.J.length cc,.slice q u.methods.length d],some [.slice po M.objs.length co,.slice pf M.ag.length cf,.slice ps M.said.length cs,.int .i64 M.steps,.int .i64 M.fin,.bool M.out.ref,.int .i64 M.out.n]],s.2)) (0,h) ⟨V_ _,x_ h,by simp⟩ rfl ?_
 rintro⟨i,h1⟩ ⟨hi,l1,hj⟩;simp only at hi l1 hj ⊢;conv=>whnf
 apply ax<;>intro g;all_goals conv=>whnf
 ·have cG:i < M.objs.length:=by omega
  have KN:=w1.le l1 λ_ _ hx=>ObQ.le l1 hx;obtain⟨b,off,xs,hp,r1,m1⟩:=KN.get cG;have hoW:=hP.2.objs _ (w_ cG);have lq:M.objs[i].cls < u.J.length:=by have:=hP.1.1.1;rcases hoW.2 with h|h<;>omega
  have DY:M.objs[i].bE.length<=1000:=by
   rcases hoW.2 with h|h
   ·omega
   ·have:=fH hP.1.1 lq;omega
  have m1':=m1;obtain⟨v,rfl,hv⟩:=m1;have acp:=λh2 (l2:h1.le h2) w ts hw ht=>acZ _ u M po co v w M.objs[i].bE ts h2 (iJ.le (ww l1 l2)) (KN.le l2 λ_ _ hx=>ObQ.le l2 hx) hP.1 hP.2 (hv.le l2 λ_ _ hx=>hx) hoW.1 hw ht;obtain⟨pv,cv,rfl,_,_⟩:=hv.len;have rb:=aK r1 (i:=1) rfl;repeat' ((first|refine aO hp ?_|refine aq ?_|refine dK r1 ?_|refine ld rb ?_|apply Y_|exact trivial)<;>conv=>whnf)
  refine ado _ _ u M.objs[i] h1 (iJ.le l1) hP.1 m1' lq DY (λh2 acy c9 l2 hw=>?_);conv=>whnf
  refine adQ (acp h2 l2 _ _ hw λt ht=>((ac9 hP.1 lq DY).1 t ht).2) (λab9=>?_) (λab9=>?_);all_goals conv=>whnf
  ·refine aj ?_;conv=>whnf
   exact dm (i+1,h2) ⟨by simp only;omega,ww l1 l2,take_one (Q:=λo=>ady u.J M.objs o.bE (acI u o)) cG hj ab9⟩ (by simp only;omega) rfl
  ·exact⟨ww l1 l2,false,rfl,nofun⟩
 have nV:i=M.objs.length:=by omega
 subst nV;rw[List.take_length]at hj;refine fm [2,3,6] [2,3] (λs:Nat × Heap=>s.1<=M.ag.length/\h.le s.2/\∀ j (hj:j < M.ag.length),j < s.1->FrT u M j M.ag[j]) (λs=>M.ag.length-s.1)
  (λs=>([.l 2 0,.l 3 0,.v (.int .i64 s.1)],[some [.slice p u.J.length cc,.slice q u.methods.length d],some [.slice po M.objs.length co,.slice pf M.ag.length cf,.slice ps M.said.length cs,.int .i64 M.steps,.int .i64 M.fin,.bool M.out.ref,.int .i64 M.out.n]],s.2)) (0,h1) ⟨V_ _,l1,λ_ _ h=>absurd h (by omega)⟩ rfl ?_
 rintro⟨i,h2⟩ ⟨hi,l2,hjf⟩;simp only at hi l2 hjf ⊢;have KN:=w1.le l2 λ_ _ hx=>ObQ.le l2 hx;have Xs:=w2.le l2 λ_ _ hx=>abu.le l2 hx;conv=>whnf
 apply ax<;>intro g;all_goals conv=>whnf
 ·have cG:i < M.ag.length:=by omega
  refine aD (ac1 _ u M po co _ pf cf i h2 (iJ.le l2) hP.1 hP.2 KN Xs ⟨ps,cs,rfl⟩ cG) (λv h3 hh=>?_);obtain⟨l3,b,rfl,U⟩:=hh;cases b
  ·conv=>whnf
   exact⟨ww l2 l3,false,rfl,nofun⟩
  ·conv=>whnf
   refine aj ?_;conv=>whnf
   exact dm (i+1,h3) ⟨by simp only;omega,ww l2 l3,λj h1 h2=>by
    by_cases jv:j=i
    ·subst jv;exact U rfl
    ·exact hjf j h1 (by simp only at h2;omega)⟩ (by simp only;omega) rfl
 have nV:i=M.ag.length:=by omega
 subst nV;have fit:aeB u M:=⟨hP.1,hP.2,hPs,g3,hj,λi hi=>hjf i hi hi⟩
 have kt:=ac7 u M po co M.out h2 KN hP.1 hP.2 hP.2.out;have hvt:=ad3 hP.1 hP.2 hP.2.out;refine ay kt ?_;have kl:=vG p u.J.length cc u.J (vtT M.objs M.out) 9 h2 (hcs.le l2 λ_ _ hx=>hx.le l2) hP.1.1 hvt.2 (by have:=hP.1.1.1;omega);conv=>whnf
 apply ax<;>intro _;all_goals conv=>whnf
 ·exact⟨l2,_,rfl,λ_=>fit⟩
 apply ax<;>intro _;all_goals conv=>whnf
 ·refine ay kl ?_;conv=>whnf
  exact⟨l2,_,rfl,λ_=>fit⟩
 ·exact⟨l2,_,rfl,λ_=>fit⟩
theorem ac2 {u:aU} {m:cB}:∀(k i:Nat) (s:dH) (comes:Bool) (out:List dH),out.length=i->(m9 u m k i s comes out).2=true->(∀ j,j < i->(m9 u m k i s comes out).1[j]? = out[j]?)/\(m9 u m k i s comes out).1.length=i+k/\∀ j:Nat,i<=j->j < i+k->∃ t nx,(m9 u m k i s comes out).1[j]? = some t/\stepT u m (fQ m j) t=some nx
 | 0,i,s,comes,out,ho,h=>by
  rw[m9]at h ⊢;exact⟨λ_ _=>rfl,by simpa using ho,λj h1 h2=>absurd h2 (by omega)⟩
 | k+1,i,s,comes,out,ho,h=>by
  rw[m9]at h ⊢;generalize (if (iR m i).told=true then iR m i else s)=s' at h ⊢;split at h
  ·cases h
  rename_i c1;rw[if_neg c1];split at h
  ·cases h
  rename_i c2;rw[if_neg c2];cases hs:stepT u m (fQ m i) s' with
  | none=>rw[hs]at h;cases h
  | some nx =>
   rw[hs]at h;simp only at h ⊢;split at h
   ·rename_i c3;rw[if_pos c3];obtain⟨a1,a2,a3⟩:=ac2 k (i+1) nx (!kW (fQ m i)) (out++[s']) (by simp[ho]) h;rw[show((i+1:Nat):Int)=(i:Int)+1 by omega]at a1 a2 a3;refine⟨λj hj=>?_,by omega,λj h1 h2=>?_⟩
    ·rw[a1 j (by omega),List.getElem?_append_left (by omega)]
    ·by_cases jv:j=i
     ·subst jv;exact⟨s',nx,by rw[a1 j (by omega)];simp[<-ho],hs⟩
     ·exact a3 j (by omega) (by omega)
   ·cases h
structure acM (u:aU) (M:bZ) (f:bU):Prop where
 fit:aeB u M
 fin:M.fin=0
 steps:M.steps≠200
 said:M.said.length≠200
 objs:M.objs.length≠207
 last:M.ag.getLast? = some f
theorem acM.go {u:aU} {M:bZ} {f:bU} (t:acM u M f):¬(M.fin≠0\/200<=M.steps\/200<=M.said.length\/207<=M.objs.length):=by
 have h1:=t.fit.ok.steps;have h2:=t.fit.ok.pU;have h3:=t.fit.ok.len;have h4:=t.steps;have h5:=t.said;have h6:=t.objs;have h7:=t.fin;omega
theorem acM.ag {u:aU} {M:bZ} {f:bU} (t:acM u M f):M.ag=M.ag.dropLast++[f]:=by
 have hl:=t.last;have cD:M.ag≠[]:=by intro hx;rw[hx]at hl;cases hl
 have:=List.dropLast_concat_getLast cD;rw[List.getLast?_eq_some_getLast cD]at hl;simp only[Option.some.injEq]at hl;rw[hl]at this;exact this.symm
theorem acM.eq {u:aU} {M:bZ} {f:bU} (t:acM u M f):gY u M=match lz u M.ag.dropLast f M with
   | .ok M'=>{M' with steps:=M'.steps+1}
   | .error k=>if k=0 then {M with fin:=3,steps:=M.steps+1}else {cK u k M with steps:=(cK u k M).steps+1}:=z9 t.ag t.go
theorem acM.frW {u:aU} {M:bZ} {f:bU} (t:acM u M f):EW u M.objs.length f:=t.fit.ok.jy f (List.mem_of_getLast? t.last)
theorem acM.frT {u:aU} {M:bZ} {f:bU} (t:acM u M f):FrT u M (M.ag.length-1) f:=by
 have hl:=t.last;have cD:M.ag≠[]:=by intro hx;rw[hx]at hl;cases hl
 have hp:0 < M.ag.length:=List.length_pos_iff.2 cD;have:=t.fit.ag (M.ag.length-1) (by omega);rw[List.getLast?_eq_getElem?,v_ (by omega)]at hl;simp only[Option.some.injEq]at hl;rw[hl]at this;exact this
theorem acM.step {u:aU} {M:bZ} {f:bU} (t:acM u M f):f.pc < (br u f.ah).code.length/\f.stack.length=(acR u f).stack.length/\ady u.J M.objs f.stack (acR u f).stack/\∃ nx,stepT u (br u f.ah) (acF u f) (acR u f)=some nx:=by
 have w:=t.frW;have q:=t.frT;have hl:=t.last;have cD:M.ag≠[]:=by intro hx;rw[hx]at hl;cases hl
 have hp:0 < M.ag.length:=List.length_pos_iff.2 cD;obtain⟨_,a2,a3⟩:=ac2 _ 0 _ _ _ rfl q.ok;have D0:=q.pc;have a2':(j8 u (br u f.ah)).1.length=0+(br u f.ah).code.length:=a2;have h0:=w.2.1.1;obtain⟨s,nx,e1,e2⟩:=a3 f.pc.toNat (by omega) (by omega);have DZ:(j8 u (br u f.ah)).1[f.pc.toNat]? = some s:=e1;have es:acR u f=s:=by unfold acR;rw[u_,DZ];rfl
 refine⟨by omega,q.top (by omega),q.cA,nx,?_⟩;rw[es];rw[show((f.pc.toNat:Nat):Int)=f.pc by omega]at e2;exact e2
theorem acM.do_ {u:aU} {M:bZ} {f:bU} (t:acM u M f) {aS rest:List Vl} (ht:dB u (acF u f) f.stack=some (aS,rest)):lz u M.ag.dropLast f M =
  if 20<=(acF u f).kind/\(acF u f).kind<=23 then jk u (acF u f) aS M.ag.dropLast {M with ag:=M.ag.dropLast++[{f with stack:=rest}]}
  else match gK u (acF u f) aS M.objs {f with stack:=rest} M.said with
   | .error e=>.error e
   | .ok (objs,g,said,p9)=>.ok {M with objs:=objs,said:=said,ag:=M.ag.dropLast++[{g with pc:=if p9 then (acF u f).a else f.pc+1}]}:=by
 unfold lz;simp only;rw[if_neg (by have:=t.step.1;omega),show(br u f.ah).code.getD f.pc.toNat dW=acF u f from rfl,ht];rfl
def aeC (u:aU) (M:bZ) (h:Heap) (v:Value):Prop:=(v=.tuple #[.agg #[.int .i64 0,.int .i64 0,.slice none 0 0,.slice none 0 0],.agg #[.int .i64 0,.int .i64 0,.int .i64 0],.bool false]) \/
 ∃ f p1 c1 p2 c2,acM u M f/\v=.tuple #[.agg #[.int .i64 f.ah,.int .i64 f.pc,.slice p1 f.locals.length c1,.slice p2 f.stack.length c2],.agg #[.int .i64 (acF u f).kind,.int .i64 (acF u f).a,.int .i64 (acF u f).b],.bool true]/\Row 2 Sd h (.slice p1 f.locals.length c1) f.locals/\Row 2 Sd h (.slice p2 f.stack.length c2) f.stack
theorem aef (us mc:List Value) (u:aU) (M:bZ) (h:Heap) (hu:dL h us u) (hQ:RH h mc M):bI prog 31 [.agg ⟨us⟩,.agg ⟨mc⟩] h λv h'=>h.le h'/\aeC u M h' v:=by
 have acr:=adr us mc u M h hu hQ;obtain⟨p,cc,q,d,rfl,hcs,fM,jN,hl2⟩:=hu.form;obtain⟨vo,vf,vs,rfl,w1,w2,w3⟩:=hQ;obtain⟨po,co,rfl,OZ,PD⟩:=w1.len;obtain⟨pf,cf,rfl,hcf,Qn⟩:=w2.len;obtain⟨ps,cs,rfl,hcS,hns⟩:=w3.len;unfold aB at acr ⊢;refine bS au func31 F31 afu rfl ?_;conv=>whnf
 refine aD acr (λv1 h1 hh=>?_);obtain⟨l1,b,rfl,U⟩:=hh;cases b
 ·conv=>whnf
  exact⟨l1,.inl rfl⟩
 have fit:=U rfl;clear U;conv=>whnf
 have hlen:=fit.ok.len;have hsd:=fit.ok.pU;have dZ:=fit.ok.steps;have Qn:=fit.ok.nf;apply aV<;>intro g0;all_goals conv=>whnf
 ·exact⟨l1,.inl rfl⟩
 apply ax<;>intro g1;all_goals conv=>whnf
 ·exact⟨l1,.inl rfl⟩
 apply ax<;>intro g2;all_goals conv=>whnf
 ·exact⟨l1,.inl rfl⟩
 apply ax<;>intro g3;all_goals conv=>whnf
 ·exact⟨l1,.inl rfl⟩
 have cD:M.ag≠[]:=by
  rcases fit.ok.fin with h|h|h
  ·exact h.2.1
  ·omega
  ·omega
 have hp:0 < M.ag.length:=List.length_pos_iff.2 cD;have tp:acM u M (M.ag[M.ag.length-1]):=⟨fit,g0,g1,by omega,by omega,by rw[List.getLast?_eq_getElem?,v_ (by omega)]⟩
 have cG:M.ag.length-1 < M.ag.length:=by omega
 have Xs:=w2.le l1 λ_ _ hx=>abu.le l1 hx;have afJ:=fM.le l1 λ_ _ hx=>ee.le l1 hx;obtain⟨b1,of1,xs,hq,r1,a1⟩:=Xs.get cG;have hF:=tp.frW;have dZ:=tp.step;generalize hf:M.ag[M.ag.length-1]=f at *;obtain⟨v1,v2,rfl,y1,y2⟩:=a1;obtain⟨pl,cl,rfl,_,_⟩:=y1.len;obtain⟨pk,ck,rfl,_,_⟩:=y2.len;obtain⟨k,hk⟩:∃ k:Nat,f.ah=k:=⟨_,(Int.toNat_of_nonneg hF.1.1).symm⟩
 have OT:k < u.methods.length:=by have:=hF.1;omega
 have hmk:br u f.ah=u.methods[k]:=gv OT hk;obtain⟨j,hj⟩:∃ j:Nat,f.pc=j:=⟨_,(Int.toNat_of_nonneg hF.2.1.1).symm⟩
 have PW:j < u.methods[k].code.length:=by rw[<-hmk];have:=dZ.1;omega
 have Fw:acF u f=u.methods[k].code[j]:=by unfold acF;rw[hmk,hj,Int.toNat_natCast];exact pI PW
 obtain⟨b2,of2,zs,vw,d2,a3⟩:=afJ.get OT;obtain⟨p1,c1,p2,c2,p3,c3,p4,c4,rfl,k1,k2,k3,k4,k5,k6,k7,k8,k9,D3,OM,JS⟩:=a3.form;obtain⟨b3,of3,ws,hq3,d3,e1,_⟩:=k6.get PW;subst e1;have d5:=aK d2 (i:=5) rfl;have fin:aeC u M h1 (.tuple #[.agg #[.int .i64 k,.int .i64 j,.slice pl f.locals.length cl,.slice pk f.stack.length ck],.agg #[.int .i64 u.methods[k].code[j].kind,.int .i64 u.methods[k].code[j].a,.int .i64 u.methods[k].code[j].b],.bool true]):=Or.inr ⟨f,pl,cl,pk,ck,tp,by rw[hk,hj,Fw],y1,y2⟩;unfold aeC at fin;rw[hk,hj]at r1;refine aj ?_;conv=>whnf
 rw[show(M.ag.length:Int)-1=((M.ag.length-1:Nat):Int)by omega];refine aq ?_;conv=>whnf
 refine aO hq ?_;conv=>whnf
 refine dK r1 ?_;conv=>whnf
 repeat' ((first|refine aq ?_|refine aO vw ?_|refine aO hq3 ?_|refine ld d5 ?_|refine dK d3 ?_|exact⟨l1,fin⟩|apply Y_|exact trivial)<;>conv=>whnf)
theorem adB {u:aU} {k:Int} {aS:List Vl} {M M':bZ} (h:jI u k aS M=.ok M'):M'.said=M.said:=by
 unfold jI at h;split at h
 ·cases h
 ·simp only[Z_]at h;rw[<-h]
theorem acV {u:aU} {n:Int} {M:bZ}:(cK u n M).said=M.said:=by
 unfold cK;split<;>rfl
theorem ads {u:aU} {x:dX} {aS:List Vl} {fs:List bU} {M M':bZ} (h:jk u x aS fs M=.ok M'):M'.said=M.said:=by
 unfold jk at h;simp only[uj]at h;repeat' split at h
 all_goals first
  | (cases h;done)
  | exact adB h
  | (simp only[Z_]at h;rw[<-h];exact acV)
  | (simp only[Z_]at h;rw[<-h])
theorem acL {objs o':List Ob} {f g:bU} {said jJ:List Int} {v:Vl} {p9:Bool} (h:eV objs f said v=.ok (o',g,jJ,p9)):jJ=said:=by
 unfold eV at h;split at h
 ·simp only[Z_,Prod.mk.injEq]at h;exact h.2.2.1.symm
 ·cases h
theorem acN {c:Prop} [Decidable c] {a b r:RV} {K:Prop} (h:(if c then a else b)=r) (x:a=r->K) (y:b=r->K):K:=by
 split at h
 ·exact x h
 ·exact y h
theorem adM {u:aU} {x:dX} {aS:List Vl} {objs o':List Ob} {f g:bU} {said jJ:List Int} {p9:Bool} (h:gK u x aS objs f said=.ok (o',g,jJ,p9)) (hk:x.kind≠24):jJ=said:=by
 have ok:∀ {o1:List Ob} {f1:bU} {b:Bool},(Except.ok (o1,f1,said,b):RV)=.ok (o',g,jJ,p9)->jJ=said:=λe=>by
  simp only[Z_,Prod.mk.injEq]at e;exact e.2.2.1.symm
 have six:∀ {r:xe} {v:Vl},(match r with | .ok (_,g)=>eV objs g said v | .error e=>.error e)=(.ok (o',g,jJ,p9):RV)->jJ=said:=λ{r v} e=>by
  cases r with
  | ok p=>exact acL e
  | error k=>cases e
 unfold gK at h;simp only at h;refine acN h acL λh=>acN h acL λh=>acN h acL λh=>acN h ok λh=>acN h ok λh=>acN h six λh=>acN h (λh=>acN h acL nofun) λh=>acN h ok λh=>acN h ok λh=>acN h ok λh=>acN h ok λh=>?_;rw[if_neg hk]at h;split at h
 ·exact ok h
 ·cases h
theorem acM.aeg {u:aU} {M:bZ} {f:bU} (t:acM u M f) (hk:(acF u f).kind≠24):(gY u M).said=M.said:=by
 rw[t.eq];cases hd:lz u M.ag.dropLast f M with
 | error k =>
  simp only;split
  ·rfl
  ·exact acV
 | ok M' =>
  show M'.said=M.said;cases ht:dB u (acF u f) f.stack with
  | none =>
   unfold lz at hd;simp only at hd;rw[if_neg (by have:=t.step.1;omega),show(br u f.ah).code.getD f.pc.toNat dW=acF u f from rfl,ht]at hd;cases hd
  | some p =>
   obtain⟨aS,rest⟩:=p;rw[t.do_ ht]at hd;split at hd
   ·exact ads (M:={M with ag:=M.ag.dropLast++[{f with stack:=rest}]}) hd
   ·split at hd
    ·cases hd
    ·rename_i h;simp only[Z_]at hd;rw[<-hd];exact adM h hk
theorem adt {cs:List dR} {a:Int} (h:ju cs a 1=true):a=1:=by
 unfold ju at h;split at h
 ·omega
 ·split at h
  ·simp at h
  ·rw[if_pos (.inr (by omega))]at h;cases h
theorem aeh {u:aU} {M:bZ} (hT:eC u) (hM:zC u M) {v:Vl} (hw:tD M.objs.length v) (h:vtT M.objs v=1):v.ref=false:=by
 cases hv:v.ref
 ·rfl
 ·have hn:=hw.1 hv;unfold vtT at h;rw[hv]at h;simp only[Bool.true_eq_false,if_false]at h;split at h
  ·cases h
  ·have:=ade hT hM (k:=v.n) (by omega) (by omega);unfold typeOf at h;repeat' split at h
   all_goals omega
theorem acM.afn {u:aU} {M:bZ} {f:bU} (t:acM u M f) {r:dH} (h:gM u.J (acR u f) [1]=some r):∃ v,f.stack.getLast? = some v/\v.ref=false:=by
 obtain⟨_,hl,ha,_⟩:=t.step;unfold gM at h;split at h
 ·rename_i hp;unfold uF at hp;simp only[List.length_singleton,Bool.and_eq_true,decide_eq_true_eq]at hp;obtain⟨zD,E2⟩:=hp;have hi:f.stack.length-1 < f.stack.length:=by omega
  have hj:f.stack.length-1 < (acR u f).stack.length:=by omega
  refine⟨f.stack[f.stack.length-1],by rw[List.getLast?_eq_getElem?,v_ hi],?_⟩;have h1:=ha.2 (f.stack.length-1) hi hj;rw[<-hl,List.drop_eq_getElem_cons hj]at E2;simp only[iF,Bool.and_eq_true]at E2;rw[adt E2.1]at h1;exact aeh t.fit.unit t.fit.ok (t.frW.2.2.2.2.2 _ (w_ hi)) (adt h1)
 ·cases h
theorem acM.aei {u:aU} {M:bZ} {f:bU} (t:acM u M f) (hk:(acF u f).kind=24):∃ v,f.stack.getLast? = some v/\(gY u M).said=M.said++[v.n]:=by
 obtain⟨_,hl,ha,nx,hs⟩:=t.step;have OJ:gM u.J (acR u f) [1]=some nx:=by
  unfold stepT pG at hs;simpa [hk]using hs
 obtain⟨v,hv,hr⟩:=t.afn OJ;have sF:f.stack=f.stack.dropLast++[v]:=by
  have cD:f.stack≠[]:=by intro hx;rw[hx]at hv;cases hv
  have:=List.dropLast_concat_getLast cD;rw[List.getLast?_eq_some_getLast cD]at hv;simp only[Option.some.injEq]at hv;rw[hv]at this;exact this.symm
 have ht:dB u (acF u f) f.stack=some ([v],f.stack.dropLast):=by
  have afK:cM u (acF u f)=some [1]:=by unfold cM;simp[hk]
  unfold dB;rw[afK];simp only[List.length_singleton];rw[sF];simp[iU,hr]
 refine⟨v,hv,?_⟩;rw[t.eq,t.do_ ht,if_neg (by omega)];unfold gK;simp[hk]
theorem ad4 {u:aU} {M R:bZ} {us mc xc:List Value} {h0 h2:Heap} {K:Value->Heap->Prop} {E:List PanicEntry->Heap->Prop} (hu:dL h0 us u) (hM:xZ h0 mc M) (hQ:RH h0 mc M) (l:h0.le h2) (xo:acT u M R) (oq:∀ h3,h2.le h3->RH h3 xc R) (hK:∀ x h3,h2.le h3->Pure prog 17 [.agg ⟨xc⟩,.agg ⟨x⟩] h3 (.bool true)->K (.agg ⟨x⟩) h3):jA prog 24 [.agg ⟨us⟩,.agg ⟨mc⟩] h2 K E :=
 cE (adl _ _ u M h2 (hu.le l) (hM.le l) (hQ.le l) R xo) λv h3 hh=>by
  obtain⟨l3,m3,B3,rfl,o3,n3,f3⟩:=hh;exact⟨l3,hK _ _ l3 (oD _ _ R h3 (oq h3 l3) (o3.pY xo.NZ))⟩
theorem adg (v:Value) (n:Nat) (h:Heap) (hB:Bytes h v n) (hn:n<=140737488355328) (hy:Pa h):Pure prog 14 [v] h (.bool true):=by
 have XL:=hB;obtain⟨p,c,rfl,hc,_⟩:=hB;refine acJ au func14 F14 afo rfl ?_;conv=>whnf
 apply ax<;>intro g;all_goals conv=>whnf
 ·exact⟨rfl,x_ h⟩
 refine aD (acX _ n h XL (by omega) hy) ?_;rintro v0 h0 ⟨l0,hA⟩;refine UnM.elim hA λpc n1 cc pm n2 cm u po co pf cf pw cw M B0 hv hu o0 sm=>?_;subst hv;have hM0:=o0.read sm.small;have hQ0:=o0.pY sm.small.NZ;obtain⟨R,xo⟩:=adI u M;have ti:=xo.NZ;unfold kr aB at o0 hM0 hQ0 ⊢;conv=>whnf
 refine aD (adk _ _ u M h0 hu hM0 hQ0 R xo) ?_;rintro v1 h1 ⟨l1,m1,B1,rfl,o1,n1,f1⟩;obtain⟨acB,do_,acA,df,acC,ack,rfl⟩:=o1.kr;unfold kr aB at o1 ⊢;conv=>whnf
 refine aD (aef _ _ u M h1 (hu.le l1) (hQ0.le l1)) ?_;rintro v2 h2 ⟨l2,hT⟩;have F6:=ww l1 l2;rcases hT with rfl|⟨f,p1,c1,p2,c2,tp,rfl,y1,y2⟩
 ·conv=>whnf
  refine ad4 hu hM0 hQ0 F6 xo (λh3 l3=>(o1.aG (cC.of_le (ww l2 l3) _)).pY ti) (λx h3 l3 acv=>?_);conv=>whnf
  refine aT acv ?_;conv=>whnf
  have l13:=ww F6 l3;refine ad4 hu hM0 hQ0 l13 xo (λh4 l4=>(o1.aG (cC.of_le (ww (ww l2 l3) l4) _)).pY ti) (λx h4 l4 acv=>?_);conv=>whnf
  refine aT acv ?_;conv=>whnf
  exact⟨rfl,ww l0 (ww l13 l4)⟩
 ·conv=>whnf
  refine ad4 hu hM0 hQ0 F6 xo (λh3 l3=>(o1.aG (cC.of_le (ww l2 l3) _)).pY ti) (λx h3 l3 acv=>?_);conv=>whnf
  refine aT acv ?_;conv=>whnf
  have l03:=ww l0 (ww F6 l3);have oq:=(o1.aG (cC.of_le (ww l2 l3) _)).pY ti;have hRs:=xo.1 ⟨tp.fit.unit,tp.fit.ok⟩;have hns:=tp.fit.ok.pU;have hnk:=tp.frW.2.2.2.1;apply aV<;>intro g1;all_goals conv=>whnf
  ·have e:=tp.aeg g1;rw[<-hRs]at e;rw[e];exact⟨by simp,l03⟩
  ·obtain⟨w,hw,e⟩:=tp.aei g1;rw[<-hRs]at e;have hlw:R.said.length=M.said.length+1:=by rw[e];simp
   have hp:0 < f.stack.length:=by
    cases hs:f.stack with
    | nil=>rw[hs]at hw;cases hw
    | cons a b=>simp
   have cG:f.stack.length-1 < f.stack.length:=by omega
   have PW:M.said.length < R.said.length:=by omega
   have RN:f.stack[f.stack.length-1]=w:=by
    rw[List.getLast?_eq_getElem?,v_ cG]at hw;simpa using hw
   have hsw:R.said[M.said.length]=w.n:=by simp only[e];simp
   obtain⟨vo,vf,vs,acn,_,_,x3⟩:=oq;simp only[aB,List.cons.injEq,and_true]at acn;obtain⟨rfl,rfl,rfl⟩:=acn;obtain⟨b1,of1,xs,hq,r1,a1⟩:=x3.get PW;have y2':=y2.le l3 λ_ _ hx=>hx;obtain⟨b2,of2,ys,vw,r2,a2⟩:=y2'.get cG;rw[hsw]at a1;rw[RN]at a2;subst a1;subst a2;have z0:=aK r1 (i:=0) rfl;have z1:=aK r2 (i:=1) rfl;refine aj ?_;conv=>whnf
   refine b8 ?_;conv=>whnf
   have hz:((f.stack.length:Int)-1).toNat=f.stack.length-1:=by omega
   repeat' ((first|refine aO hq ?_|refine aO vw ?_|refine aq ?_|refine ld z0 ?_|refine ld (by rw[hz];exact z1) ?_|refine aj ?_|apply Y_|exact trivial)<;>conv=>whnf)
   exact⟨by simp,l03⟩
theorem FnStepSaid_c (v:Value) (n:Nat) (h:Heap) (hB:Bytes h v n) (hn:n<=140737488355328):Pure prog 14 [v] h (.bool true):=by
 obtain⟨hs,hl,U,hy⟩:=wO hB;exact DU hl (adg v n hs U hn hy)
end Go.Proofs
