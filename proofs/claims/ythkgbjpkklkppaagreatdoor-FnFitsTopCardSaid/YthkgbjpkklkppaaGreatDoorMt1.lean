/- Part 1 of the lemmas on which the law rests: what functions of the program and of the reference do; no conditions but those that each lemma states. -/
import Derived.Calls
import Derived.KernelRfl
import Derived.Laws.Sem
import Derived.Deep.Quiet
import Derived.Scope
import Derived.Orders
import Derived.Below
import Derived.Laws.StructEq
import Derived.Laws.Cover3
import Derived.Defers
import Derived.Recover
import Derived.Test.YthkgbjpkklkppaaGreatDoorProg
import Derived.WalkKit
import Derived.LaidEql
import Derived.Stop.Asserts
import Derived.RowKitTokens
import Derived.Test.YthkgbjpkklkppaaGreatDoorMb8
set_option linter.unusedSimpArgs false
set_option linter.unusedVariables false
namespace Go.Vc
set_option linter.constructorNameAsVariable false
set_option linter.unusedSimpArgs false
set_option linter.unusedVariables false
section
variable {P:Program} {S:lD} (hS:dJ P S)
include hS
end
variable {D:List Deferred} {n:Nat} {h0:Heap} {w0:World} {β:Nat->Nat} {e:Env} {h:Heap} {a:Act} {w:World}
variable {P:Program} {S:lD} {o:Oper} {K:Slot->Bx->Heap->Prop} {E:List PanicEntry->Heap->Prop}
set_option linter.constructorNameAsVariable false
set_option linter.unusedVariables false
variable {D:List Deferred} {P:Program} {S:lD} {n:Nat} {h0:Heap} {w0:World} {β:Nat->Nat} {e:Env} {h:Heap} {a:Act} {w:World}
set_option linter.unusedSimpArgs false
variable {D:List Deferred} {P:Program} {S:lD} {F:Fs} {o:Oper} {e:Env} {h:Heap} {K:Slot->Bx->Heap->Prop} {E:List PanicEntry->Heap->Prop}
open Go.RowKit
variable {P:Program} {f:FuncId} {args:List Value} {h:Heap} {K:Value->Heap->Prop} {E:List PanicEntry->Heap->Prop} {R:Value->Heap->Prop} {w:World}
variable {P:Program} {h:Heap} {e:Env} {Kr:Value->Heap->Prop} {dst:Option Nat} {ty t kt et:TypeId} {pos:String} {af:Array Edge} {g:Option (Nat × Bool)} {m k x:Operand} {b:Nat} {n:Int} {l:List (Int × Value)} {v:Value}
variable {P:Program}
variable {h:Heap} {e:Env} {dst:Option Nat} {t u ty:TypeId} {x y:Operand} {pos:String} {af:Array Edge} {g:Option (Nat × Bool)}
variable {P:Program} {S:lD} {h:Heap} {e:Env} {dst:Option Nat} {t u el ty:TypeId} {x y:Operand} {pos:String} {af:Array Edge} {g:Option (Nat × Bool)}
end Go.Vc
namespace Go.Proofs
open Go.Vc Go.Proofs.Tryz
def Tryz.aab:Fs:={L:=[3,4,7],LL:=[64,71,75,84,90,94],cq:=[(12,[0,1,2,3,5,6,4,7,8,9,10,13,14,11,12,15,16,17,18,19,20,21]),(14,[0,1,2,3,4,5,6,7,10,11,8,9,12,13,14,15,16,17,18])]}
def Tryz.aac:Fs:={L:=[2,3]}
def Tryz.F11:Fs:={L:=[2,3],LL:=[29,31,33,38,40],cq:=[(6,[1,3,5,10,12,0,2,4,6,7,9,11,13,8,14,15,16,17])]}
def Tryz.F12:Fs:={L:=[2]}
def Tryz.F13:Fs:={L:=[2,3]}
def Tryz.F14:Fs:={L:=[1]}
def Tryz.F31:Fs:={L:=[2,3],LL:=[50,52,64,79,81],cq:=[(7,[1,3,6,0,2,4,5,7,8,9,10,11,12,13,15,14,16,17,18,19,20,21]),(12,[1,3,6,0,2,4,5,7,8])]}
def Tryz.F32:Fs:={L:=[1],LL:=[14,16],cq:=[(4,[1,3,0,2,4,5,6,7,8,9,10,11])]}
def Tryz.F33:Fs:={L:=[4],LL:=[22],cq:=[(6,[0,2,3,4,5,8,9,10,1,6,11,7,12,13])]}
def Tryz.F34:Fs:={L:=[2,3,27]}
def Tryz.F35:Fs:={L:=[3,4,7,10],LL:=[18,20,22,75,77,79,84],cq:=[(2,[1,3,0,2,4,5,6,7,8,9,10,11,12]),(10,[1,3,8,0,2,4,5,6,9,7,10,11,12,13])]}
def Tryz.F38:Fs:={L:=[2],LL:=[16,18],cq:=[(3,[1,3,0,2,4,5,6,7,8,9,10])]}
def Tryz.F63:Fs:={L:=[4]}
def Tryz.F77:Fs:={L:=[2]}
def Tryz.F78:Fs:={L:=[3,4],LL:=[25,27,33,36,38],cq:=[(5,[0,2,1,3,4,5,6,7,8,11,13,9,10,12,14,15,16,17,18,19])]}
def Tryz.F79:Fs:={L:=[3,4],LL:=[8,10,16,18,20,29,32,34,42,48,54],cq:=[(1,[0,2,1,3,4,5,6,7,8,10,12,9,11,13,14,15,16,17,18,19,20,21,24,26,22,23,25,27,28,29,30,31,32,33,34,35,36,37,38,39,40,42,41,43,44,45,46,48,47,49,50,51])]}
def Tryz.F81:Fs:={L:=[1]}
def Tryz.F84:Fs:={L:=[3,4,7,8],LL:=[16,18,23,38,40,42,52],cq:=[(2,[0,2,7,11,1,3,4,5,8,6,9,10,12]),(6,[0,2,4,6,7,14,16,1,3,5,8,9,15,17,18,10,11,12,13,19,20,21])]}
def Tryz.aa2:Fs:={}
set_option maxRecDepth 100000
set_option maxHeartbeats 4000000
set_option maxHeartbeats 40000000
instance (x:Sx):Decidable x.bad:=inferInstanceAs (Decidable (_\/_))
def Tryz.G27:Fs:={L:=[2,3,4,5,47,92,100,105,126],LL:=[9,22,23,36,38,69,79,82,89,99,104,115,117,123,146,152,157,158],cq:=[(2,[1,4,0,2,3,5]),(16,[0,2,3,1,4,5,6,7,8]),(20,[0,2,3,1,4,5,6,7,8,9,10]),(8,[0,2,1,3,4,5,6,7,8,9,10])],trees:=[(4,(.one 0 (.alt 1 (.one 2 (.one 3 .nil)) (.alt 2 (.one 1 (.one 3 .nil)) .kA)))),(18,(.one 0 (.one 2 (.one 3 (.one 5 (.one 9 (.one 10 (.one 1 (.one 4 (.one 6 (.one 7 (.one 11 (.one 12 (.alt 8 (.one 13 (.one 14 (.one 15 (.one 16 (.one 17 (.one 18 .nil)))))) (.alt 13 (.one 14 (.one 8 (.one 15 (.one 16 (.one 17 (.one 18 .nil)))))) .kA))))))))))))))),(23,(.one 0 (.one 2 (.one 7 (.one 8 (.one 1 (.one 3 (.one 4 (.one 5 (.one 9 (.one 10 (.alt 6 (.one 11 (.one 12 (.one 13 (.one 14 (.one 15 (.one 16 .nil)))))) (.alt 11 (.one 12 (.one 6 (.one 13 (.one 14 (.one 15 (.one 16 .nil)))))) .kA))))))))))))),(26,(.one 0 (.one 5 (.one 6 (.one 1 (.one 2 (.one 3 (.one 7 (.one 8 (.one 9 (.alt 4 (.one 10 (.one 11 (.one 12 .nil))) (.alt 10 (.one 4 (.one 11 (.one 12 .nil))) .kA)))))))))))),(27,(.one 0 (.alt 1 (.one 2 (.one 3 .nil)) (.alt 2 (.one 1 (.one 3 .nil)) .kA))))],M:=[43,45,63]}
variable {α:Type} {sz:Nat} {R:Heap->List Value->α->Prop} {h0 h h':Heap} {b c:Nat} {A:List α}
section
variable {gB g g':Heap} {l1 l2:List Int} {p1 p2:Option Addr} {c1 c2:Nat} {B1 B2:List Nat} {bb:Nat} {vb:Value} {q0 q:Int}
end
open Go.Vc Go.Proofs.Tryz
set_option maxRecDepth 100000
set_option maxHeartbeats 4000000
section
variable {gB g g':Heap} {code:List dc} {pc:Option Addr} {cc:Nat} {Bc:List Nat} {el:List Int} {pe:Option Addr} {ce:Nat} {Be:List Nat} {ks:List je} {kv:Value} {Bk:List Nat}
end
open Go.Vc Go.Proofs.Tryz
set_option maxRecDepth 100000
set_option maxHeartbeats 4000000
section
variable {g0 g g1:Heap} {cp:Option Addr} {cc:Nat} {cs:List dB} {bm cm:Nat} {recs:List (List Value)} {A:List bT} {k bb:Nat} {vb:Value} {q0 q:Int} {K:Heap->Prop}
end
open Go.Vc Go.Proofs.Tryz
set_option maxRecDepth 100000
set_option maxHeartbeats 4000000
theorem ep.spot {α:Type} {R:Heap->List Value->α->List Nat->Prop} (s:Kept R) {sz:Nat} {h:Heap} {v:Value} {l:List α} {B:List Nat} (j:ep R sz h v l B) (q:Nd B) {k:Nat} (w:k < l.length) :
  ∃ b c pre x post t C,v=.slice (some ⟨b,0,none⟩) l.length c/\l.length<=c/\h b=some (.cells (pre++x++post).toArray t (0,0))/\pre.length=k*sz/\x.length=sz/\R h x l[k] C/\b∈B/\b ∉ C/\(∀ y∈C,y∈B)/\Nd C /\
  ∀ h' f i m,f.length=sz->h' b=some (.cells (pre++f++post).toArray t (0,0))->R h' f i m->(∀ y∈B,y≠b->y ∉ C->h' y=h y)->∃ K,ep R sz h' v (l.set k i) K:=by
 obtain⟨xs,B0,B1,⟨n,j⟩,D,rfl⟩:=j;have z:=D.len;rcases j with ⟨rfl,rfl,_⟩|⟨b,c,o,t,rfl,V,Q,T,rfl⟩
 ·simp at z;omega
 have N:l=l.take k++l[k]::l.drop (k+1):=by rw[<-List.drop_eq_getElem_cons w,List.take_append_drop]
 have F:=D;rw[N]at F;obtain⟨g,d,A,aa,rfl,rfl,J,r2⟩:=Rows.split F;have RF:g.length=k:=by rw[J.len,List.length_take];omega
 cases r2 with
 | @cons x ab C d l2 e q1 q2 =>
 have W:(g++x::d).flatten++o=g.flatten++x++(d.flatten++o):=by simp
 have H:x.length=sz:=n x Z;have hyl:g.flatten.length=k*sz:=by rw[cE (λy a=>n y (by simp[a])),RF]
 have r:∀ y∈C,y ∉ A/\y ∉ e/\y≠b:=λy a=>by
  have:=q y;have h1:=List.count_pos_iff.2 a;simp only[List.count_append,List.count_cons,List.count_nil]at this;refine⟨λh=>?_,λh=>?_,λh=>?_⟩
  ·have:=List.count_pos_iff.2 h;omega
  ·have:=List.count_pos_iff.2 h;omega
  subst h;simp at this;omega
 have ndb:∀ y,y∈A\/y∈e->y≠b:=λy a L=>by
  subst L;have:=q y;simp only[List.count_append,List.count_cons,List.count_nil]at this;simp at this;rcases a with a|a<;>have:=List.count_pos_iff.2 a<;>omega
 refine⟨b,c,g.flatten,x,d.flatten++o,t,C,by rw[z],O,by rw[Q,W],hyl,H,q1,Z,λY=>(r b Y).2.2 rfl,λy a=>by simp[a],λy=>?_,λh' f i m G S P X=>?_⟩
 ·have:=q y;simp only[List.count_append]at this;omega
 have I:∀ E:List Nat,(∀ y∈E,y∈A\/y∈e)->cS h h' E:=λE p y a ad j=>by
  rw[X y (by rcases p y a with h|h<;>simp[h]) (ndb y (p y a)) (λu=>by rcases p y a with h|h;exact(r y u).1 h;exact(r y u).2.1 h)];exact j
 have hl2:(f::d).length=(x::d).length:=by simp
 refine⟨[b]++(A++(m++e)),g++f::d,[b],A++(m++e),⟨λy a=>?_,.inr ⟨b,c,o,t,Z,by simpa using V,by rw[S];simp,?_,rfl⟩⟩,?_,rfl⟩
 ·rcases List.mem_append.1 a with a|a
  ·exact n y (by simp[a])
  rcases List.mem_cons.1 a with rfl|a
  ·exact G
  exact n y (by simp[a])
 ·rw[<-T];simp[G,H]
 have M:l.set k i=l.take k++i::l.drop (k+1):=by rw[List.set_eq_take_append_cons_drop,if_pos w]
 rw[M];exact(J.aK s (I A λy a=>.inl a)).app (.cons P (q2.aK s (I e λy a=>.inr a)))
theorem bY.spot {sz:Nat} {h:Heap} {v:Value} {xs:List (List Value)} {B:List Nat} (e:bY sz h v xs B) (f:0 < xs.length) :
  ∃ b c post t,v=.slice (some ⟨b,0,none⟩) xs.length c/\B=[b]/\h b=some (.cells ([]++xs[0]++post).toArray t (0,0))/\xs[0].length=sz /\
  ∀ h' d,d.length=sz->h' b=some (.cells ([]++d++post).toArray t (0,0))->bY sz h' v (xs.set 0 d) [b]:=by
 obtain⟨i,e⟩:=e;rcases e with ⟨rfl,rfl,_⟩|⟨b,c,k,t,rfl,o,l,n,rfl⟩
 ·simp at f
 cases xs with
 | nil=>simp at f
 | cons x xs =>
  have j:x.length=sz:=i x Z;refine⟨b,c,xs.flatten++k,t,rfl,rfl,by rw[l];simp,j,λh' d g m=>⟨λy a=>?_,.inr ⟨b,c,k,t,Z,by simpa using o,by rw[m];simp,by rw[<-n];simp[g,j],rfl⟩⟩⟩;simp only[List.set_cons_zero,List.mem_cons]at a;rcases a with rfl|a
  ·exact g
  exact i y (by simp[a])
structure Sml (M:cr):Prop where
 objs:M.objs.length<=100000
 aq:M.aq.length<=100000
 said:M.said.length<=100000
 ob:∀ o∈M.objs,o.bp.length<=100000
 fr:∀ f∈M.aq,f.locals.length<=100000/\f.stack.length<=100000
 head:EY M
theorem Sml.small {M:cr} (h:Sml M):Small M:=⟨by have:=h.objs;omega,by have:=h.aq;omega,by have:=h.said;omega,λo d=>by have:=h.ob o d;omega,λf a=>by have:=h.fr f a;omega⟩
theorem kn.sml {u:aI} (e:bS u) {M:cr} (h:kn u M):M.objs.length<=1000/\M.aq.length<=1000/\M.said.length<=1000/\(∀ o∈M.objs,o.bp.length<=1000)/\∀ f∈M.aq,f.locals.length<=1000/\f.stack.length<=1000:=by
 refine⟨by have:=h.len;omega,by have:=h.nf;omega,by have:=h.mw;omega,λo i=>?_,λf g=>?_⟩
 ·rcases(h.objs o i).2 with ⟨_,d⟩|⟨_,d,j⟩
  ·omega
  have:=eL e.1 d;omega
 have a:=h.jX f g;have:=(e.bz a.1).1.2.2.2.2.1;have:=a.2.2.1;have:=a.2.2.2.1;omega
theorem Sml.same {M a:cr} (h:Sml M) (e:a.objs=M.objs) (d:a.aq=M.aq) (f:a.said=M.said):Sml a:=⟨by rw[e];exact h.objs,by rw[d];exact h.aq,by rw[f];exact h.said,by rw[e];exact h.ob,by rw[d];exact h.fr,by unfold EY;rw[d];exact h.head⟩
def Lit (M:cr):Prop:=M.objs.length<=1000/\M.aq.length<=1000/\(M.said.length<=1000/\EY M)/\(∀ o∈M.objs,o.bp.length<=1000)/\∀ f∈M.aq,(f.locals.length<=1000/\f.stack.length<=1000)/\0<=f.pc/\f.pc<=1000
theorem Lit.big {M:cr} (h:Lit M):Sml M:=⟨by have:=h.1;omega,by have:=h.2.1;omega,by have:=h.2.2.1;omega,λo d=>by have:=h.2.2.2.1 o d;omega,λf a=>by have:=h.2.2.2.2 f a;omega,h.2.2.1.2⟩
theorem IU.small {u:aI} {x:Int} {R:cr} (h:IU u x R):Lit R:=by
 by_cases a:E0 u x
 ·rw[h.1 a];have e:=Nl a.1 x.toNat (by have:=a.2;omega);obtain⟨i,b,c,j,k⟩:=e.ok.sml a.1;refine⟨i,b,⟨c,CN u _⟩,j,λf g=>⟨k f g,?_⟩⟩;have d:=e.ok.jX f g;have:=d.2.1;have:=(a.1.bz d.1).2.1.2.1;omega
 rw[h.2 a];simp[Lit,wW,EY]
def aaB (R M:cr):Prop:=M.aq.length=R.aq.length/\∀ i (a:i < M.aq.length) (d:i < R.aq.length),M.aq[i].aG=R.aq[i].aG/\(M.aq[i].pc=R.aq[i].pc\/i=0/\M.aq[i].pc=R.aq[i].pc+1)
theorem aaB.same {R M:cr} (h:M.aq=R.aq):aaB R M:=⟨by rw[h],λi a d=>by simp only[h];exact⟨trivial,.inl trivial⟩⟩
theorem aaB.set {R M:cr} {pc:Int} {a b:List Vl} (j:0 < R.aq.length) (h:M.aq=R.aq.set 0 ⟨R.aq[0].aG,pc,a,b⟩) (d:pc=R.aq[0].pc\/pc=R.aq[0].pc+1):aaB R M :=
 ⟨by rw[h];simp,λi f g=>by
  simp only[h];by_cases e:i=0
  ·subst e;simp only[List.getElem_set_self];exact⟨trivial,d.imp id λh=>⟨trivial,h⟩⟩
  rw[List.getElem_set_ne (λx=>e x.symm)];exact⟨rfl,.inl rfl⟩⟩
theorem aaO {u:aI} {x:Int} {R M:cr} (B:IU u x R) (S:vN u.methods) (q:aaB R M) (f:bS u):jA u M.aq false:=by
 intro a L aa hs e;have X:=q.1;have J:a.length < M.aq.length:=by rw[e];simp
 have K:a.length+1 < M.aq.length:=by rw[e];simp
 have N:M.aq[a.length]=L:=by simp only[e];simp
 have P:M.aq[a.length+1]=aa:=by simp only[e];simp
 obtain⟨o,g⟩:=q.2 a.length J O;obtain⟨p,_⟩:=q.2 (a.length+1) K O;rw[N]at o g;rw[P]at p;have t:E0 u x:=Classical.byContradiction λn=>by
  have:=B.2 n;rw[this]at X;have h0:wW.aq.length=0:=rfl;omega
 have T:=B.1 t;have r:=Nl t.1 x.toNat (by have:=t.2;omega);have C:=CN u x.toNat;rw[<-T]at r C;have J4:R.aq=R.aq.take a.length++R.aq[a.length]'O::R.aq[a.length+1]'O::R.aq.drop (a.length+1+1):=by
  rw[<-List.drop_eq_getElem_cons,<-List.drop_eq_getElem_cons,List.take_append_drop]
 obtain⟨k,d⟩:=r.link _ _ _ _ J4;have k:=k.resolve_right λhx=>by cases hx.1
 have d:=d rfl;have H:=r.ok.jX _ (List.getElem_mem (show a.length < R.aq.length by omega));have D:a.length=0->(R.aq[a.length]'O).aG=0:=λh0=>C _ (by
  rw[List.head?_eq_getElem?,List.getElem?_eq_getElem O];simp[h0])
 generalize R.aq[a.length]'O=i at o g k d H D;generalize R.aq[a.length+1]'O=f2 at p d;refine⟨?_,nofun⟩;rw[o];rcases g with g|⟨I,g⟩
 ·exact .inl O
 by_cases Y:i.pc+1 < (bz u i.aG).code.length
 ·exact .inl O
 right
 refine⟨rfl,?_⟩;rw[p];rw[D I]at k d Y;have SX:(0:Int)<=0/\(0:Int) < u.methods.length:=⟨O,by have:=f.2.1.1;omega⟩
 obtain⟨G,y,l,F⟩:=S (bz u 0) (by
  have m:0 < u.methods.length:=by omega
  have e:=gY (u:=u) m (show(0:Int)=((0:Nat):Int)from rfl);rw[e,List.getElem?_eq_getElem m])
 have hp0:0<=i.pc:=H.2.1.1;have hlen:(bz u 0).code.length=G.length+1:=by rw[l];simp
 have m:i.pc.toNat=G.length:=by omega
 have Q:(bz u 0).code.getD i.pc.toNat dR=y:=by rw[l,m];simp
 rw[Q]at d;have hyT:dw u (bz u 0) y:=(f.bz SX).2.1.2.2.2.1 y (by rw[l];simp);rcases d with ⟨JZ,ka⟩|⟨z,_,_,W⟩
 ·obtain⟨v,w,n,_⟩:=F (.inl JZ);rw[show f2.aG=0 by omega,l];intro ab j;rcases List.mem_append.1 j with j|j
  ·exact n ab j
  rw[List.mem_singleton.1 j];omega
 obtain⟨v,w,n,V⟩:=F (.inr z);exfalso;obtain⟨kk,aat,yb⟩:=y;simp only at z v w W;subst z v w;have G8:=f.1.1;have E:=nI f.1 (s:=0) 1 (c:=0) O O O;have h1:=Mw f.1 O E.1;have h2:=mP f.1 (s:=0) (c:=0) O O;exact V _ (nH ⟨O,E.2.2⟩) O
def UnM (g:Heap) (v:Value):Prop:=∃ d u a M B,v=.tuple #[.agg ⟨d⟩,.agg ⟨a⟩]/\dn g d u/\gZ g a M B/\Sml M/\(bS u->kn u M->jA u M.aq false)
def aae (R:cr) (d:Heap) (a:Nat) (g:Heap) (e:List Value):Prop:=d.le g/\g a=none/\∃ M B,gZ g e M B/\Sml M/\aaB R M
theorem aae.fin {j e k:Heap} {a:Nat} {vb:Value} {p q:Int} {i f:List Value} {u:aI} {R:cr} (h:aae R e a k f) (v:j.le e) (w:dn e i u) (s:∀ M,aaB R M->bS u->jA u M.aq false) (o:p<=q) (r:q<=p+12000):∃ d g,cO k a vb q=cO d a vb g/\j.le d/\d a=none/\p<=g/\g<=p+12000/\UnM d (.tuple #[.agg ⟨i⟩,.agg ⟨f⟩]):=by
 obtain⟨l,m,M,B,x,y,n⟩:=h;exact⟨_,_,rfl,Heap.le_trans v l,m,o,r,i,u,f,M,B,rfl,w.le l,x,y,λt _=>s M n t⟩
theorem aaS {l:List cJ} (e:0 < l.length) {pc:Int} {d b:List Vl} (h:∀ f,l.head? = some f->f.aG=0):∀ g,(l.set 0 ⟨l[0].aG,pc,d,b⟩).head? = some g->g.aG=0:=by
 intro g a;cases l with
 | nil=>cases a
 | cons x r =>
  simp only[List.set_cons_zero,List.head?_cons,Option.some.injEq]at a;rw[<-a];exact h x rfl
structure aad (g2 g3:Heap) (bb:Nat) (R:cr) (po:Option Addr) (co:Nat) (pf:Option Addr) (cf:Nat) (pw:Option Addr) (cw:Nat) (B1 B2 B3:List Nat):Prop where
 l3:g2.le g3
 free:g3 bb=none
 o1:ep kN 2 g3 (.slice po R.objs.length co) R.objs B1
 o2:ep nU 4 g3 (.slice pf R.aq.length cf) R.aq B2
 o3:dM g3 (.slice pw R.said.length cw) R.said B3
 nd:Nd (B1++B2++B3)
 fr:∀ b∈B1++B2++B3,g2 b=none
 lit:Lit R
section
variable {g2 g3:Heap} {bb:Nat} {R:cr} {po pf pw:Option Addr} {co cf cw:Nat} {B1 B2 B3:List Nat}
theorem aad.sep (m:aad g2 g3 bb R po co pf cf pw cw B1 B2 B3):(∀ y∈B1,y ∉ B2/\y ∉ B3)/\(∀ y∈B2,y ∉ B1/\y ∉ B3)/\∀ y∈B3,y ∉ B1/\y ∉ B2:=by
 refine⟨λy a=>?_,λy a=>?_,λy a=>?_⟩;all_goals
  have:=m.nd y;have d:=List.count_pos_iff.2 a;simp only[List.count_append]at this;exact⟨λh=>by have:=List.count_pos_iff.2 h;omega,λh=>by have:=List.count_pos_iff.2 h;omega⟩
theorem aad.Yf (m:aad g2 g3 bb R po co pf cf pw cw B1 B2 B3):Nd B1:=λa=>by have:=m.nd a;simp only[List.count_append]at this;omega
theorem aad.YR (m:aad g2 g3 bb R po co pf cf pw cw B1 B2 B3):Nd B2:=λa=>by have:=m.nd a;simp only[List.count_append]at this;omega
theorem aad.i1 (m:aad g2 g3 bb R po co pf cf pw cw B1 B2 B3):∀ b∈B1,g2 b=none/\∃ o,g3 b=some o:=λb a=>⟨m.fr b (by simp[a]),m.o1.in xJ b a⟩
theorem aad.i2 (m:aad g2 g3 bb R po co pf cf pw cw B1 B2 B3):∀ b∈B2,g2 b=none/\∃ o,g3 b=some o:=λb a=>⟨m.fr b (by simp[a]),m.o2.in OI b a⟩
theorem aad.i3 (m:aad g2 g3 bb R po co pf cf pw cw B1 B2 B3):∀ b∈B3,g2 b=none/\∃ o,g3 b=some o:=λb a=>⟨m.fr b (by simp[a]),m.o3.in b a⟩
theorem keq {g3 a:Heap} {A:List Nat} (d:∀ y∈A,a y=g3 y):cS g3 a A:=λy f o e=>by rw[d y f];exact e
abbrev mcl (R:cr) (po:Option Addr) (co:Nat) (pf:Option Addr) (cf:Nat) (vs:Value) (st fi:Int) (o:Vl):List Value:=[.slice po R.objs.length co,.slice pf R.aq.length cf,vs,.int .i64 st,.int .i64 fi,.bool o.ref,.int .i64 o.n]
theorem aad.same (m:aad g2 g3 bb R po co pf cf pw cw B1 B2 B3) (st a:Int) (o:Vl):aae R g2 bb g3 (mcl R po co pf cf (.slice pw R.said.length cw) st a o) :=
 ⟨m.l3,m.free,{R with steps:=st,fin:=a,out:=o},_,⟨_,_,_,B1,B2,B3,rfl,m.o1,m.o2,m.o3,rfl⟩,m.lit.big.same rfl rfl rfl,.same rfl⟩
theorem aad.obj {K:Prop} (m:aad g2 g3 bb R po co pf cf pw cw B1 B2 B3) {k:Nat} (H:k < R.objs.length)
  (S:∀(b:Nat) (c:Int) (r:Option Addr) (l:Nat) (pre post:List Value) (t:TypeId) (C:List Nat) (o:List Vl),po=some ⟨b,0,none⟩->g3 b=some (.cells (pre++[Value.int .i64 c,.slice r (o.map dO).length l]++post).toArray t (0,0))->pre.length=k*2->dx g3 (.slice r (o.map dO).length l) o C->(∀ z∈C,g2 z=none)->b ∉ C->o.length<=1000 ->
   (∀(d:Heap) (f:Int) (v:Value) (p:List Vl) (j:List Nat),g2.le d->d bb=none->dx d v p j->p.length<=1001->(∀ z,z ∉ C->g3 z≠none->d z=g3 z)->(∀ z∈j,z∈C\/g3 z=none) ->
    d b=some (.cells (pre++[Value.int .i64 c,.slice r (o.map dO).length l]++post).toArray t (0,0))/\aae R g2 bb (d.set b (.cells (pre++[Value.int .i64 f,v]++post).toArray t (0,0))) (mcl R po co pf cf (.slice pw R.said.length cw) R.steps R.fin R.out))->K):K:=by
 obtain⟨b,c,pre,w0,post,t,C,I,hc,n,W,Mq,T,B,D,y,ndC,put⟩:=m.o1.spot kO m.Yf H;simp only[Value.slice.injEq]at I;obtain⟨rfl,_,rfl⟩:=I;obtain⟨aa,rfl,L⟩:=T;obtain⟨r,l,rfl,NC⟩:=bY.form L;obtain⟨s1,M,N⟩:=m.sep;refine S b _ r l pre post t C _ rfl n W L (λz a=>(m.i1 z (y z a)).1) D (m.lit.2.2.2.1 _ (List.getElem_mem H)) λd f v p j Y f5 ow5 Zc J X=>?_;have G:d b=g3 b:=J b D (by rw[n];simp);refine⟨by rw[G];exact n,?_⟩;obtain⟨g,s⟩:∃ g,g=d.set b (.cells (pre++[Value.int .i64 f,v]++post).toArray t (0,0)):=⟨_,rfl⟩
 rw[<-s];have u:∀ z,z≠b->g z=d z:=λz a=>by rw[s];simp[Heap.set,a]
 have V:bb≠b:=by rintro rfl;rw[G,n]at f5;cases f5
 have le9:g2.le g:=by rw[s];exact Heap.aT Y (m.i1 b B).1
 have nbB:∀ z∈j,z≠b:=λz a e=>by
  rcases X z a with h|h
  ·exact D (e ▸ h)
  rw[e,n]at h;cases h
 have F:∀ z,z≠b->z ∉ C->(∃ q,g3 z=some q)->g z=g3 z:=λz w x ⟨q,Q⟩=>by rw[u z w,J z x (by rw[Q];simp)]
 obtain⟨P,o1'⟩:=put g [.int .i64 f,v] ⟨f,p⟩ j rfl (by rw[s];exact cY _ _ _) ⟨_,rfl,ow5.aK λz a q E=>by rw[u z (nbB z a)];exact E⟩ (λz a w x=>F z w x (m.i1 z a).2);refine⟨le9,by rw[u bb V];exact f5,{R with objs:=R.objs.set k ⟨f,p⟩},_,⟨_,_,_,P,B2,B3,Z,o1',m.o2.aK pN (keq λz a=>F z (λe=>(M z a).1 (e ▸ B)) (λe=>(M z a).1 (y z e)) (m.i2 z a).2),m.o3.aK (keq λz a=>F z (λe=>(N z a).1 (e ▸ B)) (λe=>(N z a).1 (y z e)) (m.i3 z a).2),rfl⟩,?_⟩;have i:=m.lit;refine⟨⟨by have:=i.1;simp;omega,i.big.aq,i.big.said,λq E=>?_,i.big.fr,i.big.head⟩,.same rfl⟩;rcases List.mem_or_eq_of_mem_set E with h|rfl
 ·exact i.big.ob q h
 simp only;omega
theorem aad.say (m:aad g2 g3 bb R po co pf cf pw cw B1 B2 B3) {a:Heap} {v:Value} {l:List Int} {B:List Nat} (j:g2.le a) (f5:a bb=none) (o:dM a v l B) (p:l.length<=1001) (i:∀ z,z ∉ B3->g3 z≠none->a z=g3 z):aae R g2 bb a (mcl R po co pf cf v R.steps R.fin R.out):=by
 obtain⟨k,n,q⟩:=m.sep;have e:∀ z,z ∉ B3->(∃ o,g3 z=some o)->a z=g3 z:=λz f ⟨o,g⟩=>i z f (by rw[g];simp);exact⟨j,f5,{R with said:=l},_,⟨_,_,_,B1,B2,B,rfl,m.o1.aK kO (keq λz d=>e z (k z d).2 (m.i1 z d).2),m.o2.aK pN (keq λz d=>e z (n z d).2 (m.i2 z d).2),o,rfl⟩,⟨m.lit.big.objs,m.lit.big.aq,by simp only;omega,m.lit.big.ob,m.lit.big.fr,m.lit.big.head⟩,.same rfl⟩
theorem aad.jX {K:Prop} (m:aad g2 g3 bb R po co pf cf pw cw B1 B2 B3) (s:0 < R.aq.length)
  (T:∀(b:Nat) (mt pc:Int) (M:Value) (v:Option Addr) (r:Nat) (post:List Value) (w:TypeId) (e f:List Nat) (H t:List Vl),pf=some ⟨b,0,none⟩->g3 b=some (.cells ([]++[Value.int .i64 mt,.int .i64 pc,M,.slice v (t.map dO).length r]++post).toArray w (0,0))->dx g3 M H e->dx g3 (.slice v (t.map dO).length r) t f->(∀ z∈e++f,g2 z=none)->b ∉ e++f->Nd (e++f)->H.length<=1000->t.length<=1000->(0<=pc/\pc<=1000) ->
   (∀(d:Heap) (j:Int) (k l:Value) (n o:List Vl) (p q:List Nat),g2.le d->d bb=none->d b=some (.cells ([]++[Value.int .i64 mt,.int .i64 j,k,l]++post).toArray w (0,0))->dx d k n p->dx d l o q->n.length<=1001->o.length<=1001->(∀ z,z≠b->z ∉ e++f->g3 z≠none->d z=g3 z)->(j=pc\/j=pc+1) ->
    aae R g2 bb d (mcl R po co pf cf (.slice pw R.said.length cw) R.steps R.fin R.out))->K):K:=by
 obtain⟨b,c,pre,w0,post,w,aa,G,hc,W,sI,Mq,V,F,X,B,ndC,put⟩:=m.o2.spot pN m.YR s;simp only[Value.slice.injEq]at G;obtain⟨rfl,_,rfl⟩:=G;obtain⟨k,l,e,f,rfl,ow1,I,rfl⟩:=V;obtain⟨v,r,rfl,NC⟩:=bY.form I;obtain⟨J,s2,L⟩:=m.sep;obtain rfl:pre=[]:=List.eq_nil_of_length_eq_zero O;have i:=m.lit;have D:=i.2.2.2.2 _ (List.getElem_mem s);refine T b _ _ k v r post w e f _ _ rfl W ow1 I (λz a=>(m.i2 z (B z a)).1) X ndC D.1.1 D.1.2 D.2 λd j k l n o p q l9 f9 S o1' E n1 n2 k9 aa3=>?_;have C:∀ z,z≠b->z ∉ e++f->(∃ u,g3 z=some u)->d z=g3 z:=λz x y ⟨u,Q⟩=>k9 z x y (by rw[Q];simp);obtain⟨N,E⟩:=put d [.int .i64 R.aq[0].aG,.int .i64 j,k,l] ⟨R.aq[0].aG,j,n,o⟩ (p++q) rfl S ⟨k,l,p,q,rfl,o1',E,rfl⟩ (λz a x y=>C z x y (m.i2 z a).2);refine⟨l9,f9,{R with aq:=R.aq.set 0 ⟨R.aq[0].aG,j,n,o⟩},_,⟨_,_,_,B1,N,B3,Z,m.o1.aK kO (keq λz a=>C z (λg=>(J z a).1 (g ▸ F)) (λg=>(J z a).1 (B z g)) (m.i1 z a).2),E,m.o3.aK (keq λz a=>C z (λg=>(L z a).2 (g ▸ F)) (λg=>(L z a).2 (B z g)) (m.i3 z a).2),rfl⟩,?_⟩;refine⟨⟨i.big.objs,by have:=i.2.1;simp;omega,i.big.said,i.big.ob,λu ho=>?_,λP Y=>?_⟩,aaB.set s rfl aa3⟩;rotate_left
 ·exact aaS s i.big.head P Y
 rcases List.mem_or_eq_of_mem_set ho with h|rfl
 ·exact i.big.fr u h
 simp only;omega
theorem aad.frf (m:aad g2 g3 bb R po co pf cf pw cw B1 B2 B3) (e:0 < R.aq.length) {b:Nat} (f:pf=some ⟨b,0,none⟩):g2 b=none:=by
 obtain⟨g,_,_,_,_,_,_,a,_,_,_,_,_,d,_⟩:=m.o2.spot pN m.YR e;rw[f]at a;simp only[Value.slice.injEq,Option.some.injEq,Addr.mk.injEq,and_true]at a;rw[a.1];exact(m.i2 _ d).1
theorem aaZ {K:Prop} {vb:Value} {b:Nat} {mt pc:Int} {p B:Option Addr} {r q:Nat} {post:List Value} {C:TypeId} {i d:List Nat} {f k:List Vl} (m:aad g2 g3 bb R po co pf cf pw cw B1 B2 B3) (N:0 < f.length)
  (J:g3 b=some (.cells ([]++[Value.int .i64 mt,.int .i64 pc,.slice p (f.map dO).length r,.slice B (k.map dO).length q]++post).toArray C (0,0))) (T:dx g3 (.slice p (f.map dO).length r) f i) (V:dx g3 (.slice B (k.map dO).length q) k d) (H:∀ z∈i++d,g2 z=none) (L:b ∉ i++d) (S:Nd (i++d)) (ha:f.length<=1000) (sG:k.length<=1000)
  (W:∀(e:Heap) (o:Int) (D E:Value) (v w:List Vl) (F G:List Nat),g2.le e->e bb=none->e b=some (.cells ([]++[Value.int .i64 mt,.int .i64 o,D,E]++post).toArray C (0,0))->dx e D v F->dx e E w G->v.length<=1001->w.length<=1001->(∀ z,z≠b->z ∉ i++d->g3 z≠none->e z=g3 z)->(o=pc\/o=pc+1)->aae R g2 bb e (mcl R po co pf cf (.slice pw R.said.length cw) R.steps R.fin R.out))
  (I:∀(a:Nat) (g:List Value) (t1:TypeId),p=some ⟨a,0,none⟩->g3 a=some (.cells ([]++dO f[0]++g).toArray t1 (0,0))->(∀ y,aae R g2 bb (g3.set a (.cells ([]++dO y++g).toArray t1 (0,0))) (mcl R po co pf cf (.slice pw R.said.length cw) R.steps R.fin R.out))->K):K:=by
 obtain⟨a,Y,g,t1,u,rfl,t,aa6,X⟩:=T.spot (by simpa using N);simp only[Value.slice.injEq]at u;obtain⟨rfl,_,rfl⟩:=u;have M:b≠a:=λj=>L (by simp[j]);have Q:a ∉ d:=λh=>by
  have:=S a;have s:=List.count_pos_iff.2 h;simp only[List.count_append,List.count_cons,List.count_nil,beq_self_eq_true,if_true]at this;omega
 refine I a g t1 rfl (by simpa using t) λy=>?_;have l:∀ z,z≠a->(g3.set a (.cells ([]++dO y++g).toArray t1 (0,0))) z=g3 z:=λz n=>by simp[Heap.set,n]
 have P:bb≠a:=by rintro rfl;have:=m.free;rw[t]at this;cases this
 have x:=X (g3.set a (.cells ([]++dO y++g).toArray t1 (0,0))) (dO y) rfl (cY _ _ _);rw[<-List.map_set]at x;exact W _ pc _ _ (f.set 0 y) k [a] d (Heap.aT m.l3 (H a Z)) (by rw[l bb P];exact m.free) (by rw[l b M];exact J) x (V.aK (keq λz n=>l z λj=>Q (j ▸ n))) (by simp;omega) O (λz h1 s _=>l z λj=>s (by simp[j])) (.inl rfl)
end
theorem aaG {i d:Heap} {f:Nat} {vb:Value} {B q:Int} {n:Option Addr} {m:Nat} {l:List Vl} {C:List Nat} {y:Vl} {o:TypeId} {K:Value->Heap->Prop} (D:bC i f vb B) (E:bC d f vb q) (x:i.le d) (z:dx d (.slice n (l.map dO).length m) l C) (p:∀ G∈C,i G=none) (H:l.length<=1000)
  (r:∀ j g a e,i.le a->bC a f vb q->dx a (.slice j (l++[y]).length g) (l++[y]) e->(∀ b,b ∉ C->d b≠none->a b=d b)->(∀ b∈e,b∈C\/d b=none)->K (.slice j (l++[y]).length g) (cO a f vb q)):App 16 2 [.bool false,.int .i64 0] o (cO d f vb q) n (l.map dO).length m 1 (dO y) K :=
 mb (ys:=[dO y]) D E z p x Z rfl (by simp[dO]) rfl rfl (by simp;omega) (by simp;omega) λF a e s t u I v w=>by
  have k:dx a F (l++[y]) e:=by simpa [dx]using u
  obtain⟨j,g,rfl,_⟩:=bY.form k;rw[List.length_map]at k ⊢;exact r j g a e s t k v w
theorem aaT {g:Heap} {a:Nat} {vb:Value} {p:Int} (n:Int) (r:bC g a vb p) (l:p<=90000000) (k:0<=n/\n<=100000) :
  Dr prog 63 [.pointer (some ⟨a,0,none⟩),.int .i64 n] g a vb p 3 λf v=>f=g/\∃ x:Vl,v=.agg ⟨dO x⟩:=by
 refine bE ax func63 F63 U rfl ?_;conv=>whnf
 refine bN r O (λx t u w d=>?_);conv=>whnf
 apply aC<;>intro _;all_goals conv=>whnf
 ·refine ia d (CV d O) (λv j q m e o s i=>?_);obtain⟨rfl,y,rfl,_,_⟩:=i;conv=>whnf
  exact⟨_,_,rfl,Heap.le_refl _,e.free,O,O,rfl,⟨false,y⟩,rfl⟩
 refine av ?_;conv=>whnf
 refine bN d O (λy z B C e=>?_);conv=>whnf
 exact⟨_,_,rfl,Heap.le_refl _,e.free,O,O,rfl,⟨true,y⟩,rfl⟩
theorem aaP {ae:Heap} {j:Nat} {vb:Value} {af:Int} (aj:bC ae j vb af) (hp:af<=20000000) (hB:Pc ae) :
  Dr prog 27 [.pointer (some ⟨j,0,none⟩)] ae j vb af 12000 UnM:=by
 refine bE ax func27 G27 U rfl ?_;conv=>whnf
 refine ia aj (LN aj O hB) (λaa g1 q1 n E Y9 Za W=>?_);refine HV.elim W λp1 n1 c1 p2 n2 c2 aaf hv g hHM=>?_;subst hv;conv=>whnf
 refine ia E (KW E O) (λaa L q2 l2 r2 Tm Tn W=>?_);obtain⟨rfl,al,rfl,x0,x1⟩:=W;obtain⟨R,hIs⟩:=Nm aaf al;have l:=λam (hF:aaB R am) hU=>aaO hIs hHM hF hU;conv=>whnf
 refine Vn r2 (R:=λaa g'=>∃ mc ab,aa=.agg ⟨mc⟩/\gZ g' mc R ab/\Nd ab/\∀ b∈ab,L b=none) (KA _ aaf al L g R hIs) (λaa d l3 r3 hh=>?_);obtain⟨mc,ab,rfl,own,nd,fr⟩:=hh;obtain⟨po,co,pf,cf,pw,cw,rfl⟩:=own.sE;unfold sE aR at own ⊢;obtain⟨vo,vf,vs,B1,B2,B3,r,o1,o2,o3,rfl⟩:=own;simp only[List.cons.injEq,and_true]at r;obtain⟨rfl,rfl,rfl⟩:=r;have m:aad L d j R po co pf cf pw cw B1 B2 B3:=⟨l3,r3.free,o1,o2,o3,nd,fr,hIs.small⟩
 have hol:=m.lit.1;clear nd fr W;conv=>whnf
 refine bN r3 O (λy y0 y1 y2 r4=>?_);clear y1 y2;conv=>whnf
 repeat' ((first|apply And.intro|exact trivial|apply aC<;>intro _|apply aX<;>intro _|exact(m.same R.steps R.fin R.out).fin n g l O O)<;>conv=>whnf)
 refine bN r4 O (λk k0 x p r5=>?_);have LD:k.toNat < R.objs.length:=by omega
 conv=>whnf
 refine bN r5 O (λz z0 z1 z2 q=>?_);have a:z=0\/z=1\/z=2\/z=3\/z=4\/z=5\/z=6\/z=7\/z=8:=by omega
 clear x p z0 z1 z2;have dv:∀(C:Int) (ad:Value->Heap->Prop) (ah:List PanicEntry->Heap->Prop),0<=C/\C<=100000->(∀ y t,bC d j vb t->q2<=t->t<=q2+10->ad (.agg #[.bool (Vl.ref y),.int .i64 (Vl.n y)]) (cO d j vb t))->Go.Vc.Call prog 63 [.pointer (some ⟨j,0,none⟩),.int .i64 C] (cO d j vb (q2+1+1+1)) ad ah:=λC ad ah hn hK =>
  ia q (aaT C q O hn) λaa g4 t l4 o NV NW W=>by
   obtain⟨rfl,y,rfl⟩:=W;exact hK y t o O O
 rcases a with rfl|rfl|rfl|rfl|rfl|rfl|rfl|rfl|rfl
 ·conv=>whnf
  refine bN q O (λy y0 y1 y2 o=>?_);rcases(show y=0\/y=1\/y=2 by omega)with rfl|rfl|rfl;all_goals
   conv=>whnf
   repeat' ((first|refine ay ?_|apply And.intro|exact trivial)<;>conv=>whnf)
   all_goals exact(m.same _ R.fin R.out).fin n g l O O
 ·conv=>whnf
  refine bN q O (λy y0 y1 y2 o=>?_);conv=>whnf
  repeat' ((first|apply And.intro|exact trivial)<;>conv=>whnf)
  all_goals exact(m.same R.steps _ R.out).fin n g l O O
 ·conv=>whnf
  refine dv _ _ _ O (λy t o NV NW=>?_);conv=>whnf
  repeat' ((first|refine ay ?_|apply And.intro|exact trivial)<;>conv=>whnf)
  all_goals exact(m.same R.steps R.fin y).fin n g l O O
 ·refine m.obj LD λb c X V pre post J ag ai hpo e sI ow M w hl D=>?_;conv=>whnf
  refine bN q O (λy y0 y1 y2 o=>?_);have v:=(D d (y-3) _ ai ag m.l3 m.free ow O (λ_ _ _=>rfl) (λz a=>.inl a)).2;conv=>whnf
  repeat' ((first|apply And.intro|exact trivial|refine ay ?_|refine av ?_|refine aL hpo ?_|refine j4 o.free e (by simp only[List.length_append,List.length_cons,List.length_nil];omega) (kg (i:=0) (by show 0+k.toNat*2+0=_;omega) Z) ?_)<;>conv=>whnf)
  all_goals exact v.fin n g l O O
 ·refine m.obj LD λb c X V pre post J ag ai hpo e sI ow M w hl D=>?_;have rv:∀ C,C=0+k.toNat*2+1->rd d b C=some _:=λC hn=>cX e (i:=1) O rfl;conv=>whnf
  repeat' ((first|apply And.intro|exact trivial|refine ay ?_|refine av ?_|refine aL hpo ?_|refine ld (cW (eE q.free) (rv _ rfl)) ?_|refine dv _ _ _ O (λy t o NV NW=>?_)|(refine aaG (y:=y) r2 o m.l3 ow M hl (λI F f s x p P Q Y=>?_);have v:=D f c _ _ s x p.free P (by simp;omega) Q Y)|refine j4 p.free v.1 (by simp only[List.length_append,List.length_cons,List.length_nil];omega) (kg (i:=1) (by show 0+k.toNat*2+1=_;omega) Z) ?_)<;>conv=>whnf)
  all_goals exact v.2.fin n g l O O
 ·conv=>whnf
  refine bN q O (λy y0 y1 y2 o=>?_);rcases(show y=0\/y=1 by omega)with rfl|rfl;all_goals
   conv=>whnf
   repeat' ((first|apply And.intro|exact trivial|refine ay ?_|refine sL (k:=[_]) r2 o m.o3 (λz a=>(m.i3 z a).1) m.l3 rfl (by have:=m.lit.2.2.1;simp;omega) (λI F f s x p P _ ev=>?_))<;>conv=>whnf)
   all_goals exact(m.say x p.free P (by have:=m.lit.2.2.1;simp;omega) λz G h2=>ev.sr z h2 G).fin n g l O O
 ·by_cases N:0 < R.aq.length
  ·refine m.jX N λb mt pc T X V post J aaa K la B H e S ow2 M w ndC ha sG OM D=>?_;have E:rd d b 3=some _:=cX e (i:=3) rfl rfl;have aa4:∀ y I F f s,L.le f->bC f j vb 0->dx f (.slice I (B++[y]).length F) (B++[y]) s->(∀ b,b ∉ K->d b≠none->f b=d b)->(∀ b∈s,b∈K\/d b=none)->f b=d b/\aae R L j (f.set b (.cells ([]++[Value.int .i64 mt,.int .i64 pc,T,.slice I (B++[y]).length F]++post).toArray J (0,0))) (mcl R po co pf cf (.slice pw R.said.length cw) R.steps R.fin R.out):=by
    intro y I F f s x p P Q Y;have aa0:b ∉ K:=λh=>w (by simp[h]);have wB:f b=d b:=Q b aa0 (by rw[e];simp);have J2:L b=none:=m.frf N H;have u:∀ z,z≠b->(f.set b (.cells ([]++[Value.int .i64 mt,.int .i64 pc,T,.slice I (B++[y]).length F]++post).toArray J (0,0))) z=f z:=λz a=>by simp[Heap.set,a]
    have uD:j≠b:=by rintro rfl;have:=p.free;rw[wB,e]at this;cases this
    have nbB:∀ z∈s,z≠b:=λz a r=>by
     rcases Y z a with h|h
     ·exact aa0 (r ▸ h)
     rw[r,e]at h;cases h
    refine⟨wB,D _ pc _ _ la _ aaa s (Heap.aT x J2) (by rw[u j uD];exact p.free) (cY _ _ _) (S.aK (keq λz a=>?_)) (P.aK λz a an ho=>by rw[u z (nbB z a)];exact ho) O (by simp;omega) (λz G h2 h3=>by rw[u z G,Q z (λh=>h2 (by simp[h])) h3]) (.inl rfl)⟩;have G:z≠b:=λr=>w (by rw[<-r];simp[a]);rw[u z G,Q z (λh=>?_) (by obtain⟨an,ho⟩:=S.in z a;rw[ho];simp)];have:=ndC z;have G:=List.count_pos_iff.2 a;have h2:=List.count_pos_iff.2 h;simp only[List.count_append]at this;omega
   have hC2:∀ z∈K,L z=none:=λz a=>M z (by simp[a]);conv=>whnf
   refine dm ?_;conv=>whnf
   repeat' ((first|apply And.intro|exact trivial|refine ay ?_|refine aL H ?_|refine ld (cW (eE q.free) E) ?_|refine dv _ _ _ O (λy t o NV NW=>?_)|(refine aaG (y:=y) r2 o m.l3 ow2 hC2 sG (λI F f s x p P Q Y=>?_);have v:=aa4 y I F f s x ⟨p.free,p.bytes,O⟩ P Q Y)|refine j4 p.free (v.1.trans e) (by simp only[List.length_append,List.length_cons,List.length_nil];omega) (kg (i:=3) rfl Z) ?_)<;>conv=>whnf)
   all_goals exact v.2.fin n g l O O
  conv=>whnf
  repeat' ((first|apply And.intro|exact trivial|refine bZ ?_|exact(m.same R.steps R.fin R.out).fin n g l O O)<;>conv=>whnf)
 ·by_cases N:0 < R.aq.length
  ·refine m.jX N λb mt pc T X V post J aaa K la B H e S ow2 M w ndC ha sG OM D=>?_;obtain⟨X1,X2,rfl,_⟩:=bY.form S;have E:rd d b 2=some _:=cX e (i:=2) rfl rfl;by_cases Lz:0 < la.length
   ·refine aaZ (vb:=vb) (mt:=mt) (pc:=pc) m Lz e S ow2 M w ndC ha sG D λb1 VO t1 BC vr hF=>?_;conv=>whnf
    refine dm ?_;conv=>whnf
    repeat' ((first|apply And.intro|exact trivial|refine ob (by first|omega|(simp only[List.length_map];omega)) ?_|refine aL H ?_|refine aL BC ?_|refine av ?_|refine ld (cW (eE q.free) E) ?_|refine fD (by simp only[List.length_map];omega) ?_|refine dv _ _ _ O (λy t o NV NW=>?_)|refine j4 o.free vr (by simp[dO]) (AU (pre:=[]) (y:=dO y) rfl rfl) ?_)<;>conv=>whnf)
    all_goals exact(hF y).fin n g l O O
   conv=>whnf
   refine dm ?_;conv=>whnf
   repeat' ((first|apply And.intro|exact trivial|refine ob (by first|omega|(simp only[List.length_map];omega)) ?_|refine aL H ?_|refine ld (cW (eE q.free) E) ?_|refine cu (by simp only[List.length_map];omega) ?_|exact(m.same R.steps R.fin R.out).fin n g l O O)<;>conv=>whnf)
  conv=>whnf
  repeat' ((first|apply And.intro|exact trivial|refine bZ ?_|exact(m.same R.steps R.fin R.out).fin n g l O O)<;>conv=>whnf)
 by_cases N:0 < R.aq.length
 ·refine m.jX N λb mt pc T X V post J aaa K la B H e S ow2 M w ndC ha sG OM D=>?_;have E:rd d b 1=some _:=cX e (i:=1) rfl rfl;have uD:j≠b:=by rintro rfl;have:=q.free;rw[e]at this;cases this
  have u:∀ z,z≠b->(d.set b (.cells ([]++[Value.int .i64 mt,.int .i64 (pc+1),T,.slice X (B.map dO).length V]++post).toArray J (0,0))) z=d z:=λz a=>by simp[Heap.set,a]
  have v:=D (d.set b (.cells ([]++[Value.int .i64 mt,.int .i64 (pc+1),T,.slice X (B.map dO).length V]++post).toArray J (0,0))) (pc+1) T _ la B aaa K (Heap.aT m.l3 (m.frf N H)) (by rw[u j uD];exact m.free) (cY _ _ _) (S.aK (keq λz a=>u z λr=>w (by rw[<-r];simp[a]))) (ow2.aK (keq λz a=>u z λr=>w (by rw[<-r];simp[a]))) O O (λz G _ _=>u z G) (.inr rfl);conv=>whnf
  refine dm ?_;conv=>whnf
  repeat' ((first|apply And.intro|exact trivial|refine ay ?_|refine aL H ?_|refine av ?_|refine ld (cW (eE q.free) E) ?_|refine j4 q.free e (by simp only[List.length_append,List.length_cons,List.length_nil];omega) (kg (i:=1) rfl Z) ?_)<;>conv=>whnf)
  all_goals exact v.fin n g l O O
 conv=>whnf
 repeat' ((first|apply And.intro|exact trivial|refine bZ ?_|exact(m.same R.steps R.fin R.out).fin n g l O O)<;>conv=>whnf)
theorem UnM.elim {g:Heap} {v:Value} {K:Prop} (h:UnM g v) (l:∀ p n c q m f u j d i a k e M B,v=.tuple #[.agg #[.slice p n c,.slice q m f],.agg ⟨sE j d i a k e M⟩]->dn g [.slice p n c,.slice q m f] u->gZ g (sE j d i a k e M) M B->Sml M->K):K:=by
 obtain⟨x,u,w,M,B,rfl,h,o,s,_⟩:=h;obtain⟨t,r,q,f,rfl,_⟩:=h.form;obtain⟨j,d,i,a,k,e,rfl⟩:=o.sE;exact l _ _ _ _ _ _ _ _ _ _ _ _ _ _ _ rfl h o s
theorem UnM.aa1 {g:Heap} {v:Value} {K:Prop} (h:UnM g v) (l:∀ p n c q m f u j d i a k e M B,v=.tuple #[.agg #[.slice p n c,.slice q m f],.agg ⟨sE j d i a k e M⟩]->dn g [.slice p n c,.slice q m f] u->gZ g (sE j d i a k e M) M B->Sml M->(bS u->kn u M->jA u M.aq false)->K):K:=by
 obtain⟨y,u,x,M,B,rfl,h,o,s,r⟩:=h;obtain⟨w,t,q,f,rfl,_⟩:=h.form;obtain⟨j,d,i,a,k,e,rfl⟩:=o.sE;exact l _ _ _ _ _ _ _ _ _ _ _ _ _ _ _ rfl h o s r
open Go.Vc Go.Proofs.Tryz
set_option maxRecDepth 100000
set_option maxHeartbeats 4000000
theorem aaU {P:Program} {f:FuncId} {args:List Value} {h:Heap} {K:Value->Heap->Prop} {E:List PanicEntry->Heap->Prop} {p:Prop} (k:Go.Vc.Pure P f args h (tf p)) (e:p->K (.bool true) h) (d:¬p->K (.bool false) h):gD P f args h K E:=by
 by_cases a:p
 ·rw[eg a]at k;exact aP k (e a)
 rw[cD a]at k;exact aP k (d a)
theorem aaH (x:Vl) (n:Nat) (h:Heap):Pure prog 77 [.agg ⟨dO x⟩,.int .i64 n] h (tf (jz n x)):=by
 obtain⟨r,k⟩:=x;show Go.Vc.Pure _ _ [.agg #[.bool r,.int .i64 k],.int .i64 n] h (tf ((r=true->0<=k/\k<=n)/\(r=false->isWord k=true)));refine jc ax func77 F77 U rfl ?_;cases r
 all_goals conv=>whnf
 ·refine au (tE _ h) ?_;conv=>whnf
  refine⟨?_,Heap.le_refl h⟩;by_cases d:isWord k=true
  ·rw[d];exact dH (by simp[d])
  have:isWord k=false:=by simpa using d
  rw[this];exact bU (by simp[this])
 refine au (dW _ _ _ h) ?_;conv=>whnf
 repeat' ((first|apply aC<;>intro g|apply aX<;>intro g)<;>conv=>whnf)
 all_goals first|exact⟨dH ⟨λ_=>O,λh=>nomatch h⟩,Heap.le_refl h⟩|exact⟨bU (λa=>by have:=a.1 rfl;omega),Heap.le_refl h⟩|exact⟨fA ⟨λa=>by have:=a.1 rfl;omega,λa=>⟨λ_=>O,λh=>nomatch h⟩⟩,Heap.le_refl h⟩
theorem aau (v:Value) (l:List Vl) (n:Nat) (h:Heap) (j:Row 2 FR h v l):Pure prog 160 [v,.int .i64 n] h (tf (∀ x∈l,jz n x)):=by
 obtain⟨r,c,rfl,s,u⟩:=j.len;refine jc ax func160 aa2 U rfl ?_;conv=>whnf
 refine eF [0,1,5] [] (λi:Nat=>i<=l.length/\∀ x∈l.take i,jz n x) (λi=>l.length-i)
  (λi=>([.v (.slice r l.length c),.v (.int .i64 n),.v (.int .i64 i)],[],h)) 0 ⟨Nat.zero_le _,Z⟩ rfl ?_
 rintro i ⟨t,g⟩;conv=>whnf
 apply aC<;>intro o;all_goals conv=>whnf
 ·have f:i < l.length:=by omega
  obtain⟨b,w,y,q,k,m⟩:=j.get f;have d:=aaH l[i] n h;obtain rfl:=m;unfold dO at d;refine ay ?_;conv=>whnf
  refine aL q ?_;conv=>whnf
  refine dZ k ?_;conv=>whnf
  by_cases e:jz n l[i]
  ·rw[eg e]at d;refine au d ?_;conv=>whnf
   refine av ?_;conv=>whnf
   exact cL (i+1) ⟨O,λx a=>by
    rw[List.take_add_one,List.mem_append]at a;rcases a with a|a
    ·exact g x a
    rw[List.getElem?_eq_getElem f]at a;simp at a;subst a;exact e⟩ O rfl
  rw[cD e]at d;refine au d ?_;conv=>whnf
  exact⟨bU λp=>e (p _ (List.getElem_mem f)),Heap.le_refl h⟩
 have:i=l.length:=by omega
 subst this;rw[List.take_length]at g;exact⟨dH g,Heap.le_refl h⟩
theorem aaK {K:Value->Heap->Prop} {E:List PanicEntry->Heap->Prop} {p:Option Addr} {n c:Nat} {a:List dB} {x:Int} {h:Heap} (j:eP h (.slice p n c) a) (ok:bX a) (h0:0<=x/\x < a.length) (g:∀ h' e d,h.le h'->K (.slice e (bV a x).length d) h') :
  gD prog 82 [.slice p n c,.int .i64 x] h K E:=cP (jt _ p n c a x h j ok h0.1 h0.2 (Nat.lt_succ_self _)) (λv h' i=>by
 obtain⟨f,B,k,_⟩:=i;obtain⟨e,d,rfl,_⟩:=k.form;rw[List.length_map];exact⟨f,g h' e d f⟩)
theorem aaC {u:aI} {n:Nat} {o:Ob} (a:∀ x∈o.bp,jz n x):Em u n o↔(((o.cls = -1\/o.cls = -2)/\o.bp.length<=6)\/(0<=o.cls/\o.cls < u.ak.length/\o.bp.length=(bV u.ak o.cls).length)):=⟨λh=>h.2,λh=>⟨a,h⟩⟩
theorem aaV (i:List Value) (u:aI) (o:Ob) (xs:List Value) (n:Nat) (h:Heap) (m:dn h i u) (f:bS u) (l:uG h xs o):Pure prog 78 [.agg ⟨i⟩,.agg ⟨xs⟩,.int .i64 n] h (tf (Em u n o)):=by
 obtain⟨E,q,H,s,rfl,k,B,y,z⟩:=m.form;obtain⟨v,rfl,g⟩:=l;have d:=aau v o.bp n h g;obtain⟨G,r,rfl,t,C⟩:=g.len;have j:=f.1;have w:=f.1.1;refine jc ax func78 F78 U rfl ?_;conv=>whnf
 by_cases a:∀ x∈o.bp,jz n x
 ·rw[eg a]at d;refine au d ?_;conv=>whnf
  repeat' ((first|apply aC<;>intro _|apply aX<;>intro _|refine av ?_|refine aP (dW _ _ _ h) ?_|refine aaK k j O (λh' F p D=>?_)|apply And.intro|exact trivial)<;>conv=>whnf)
  all_goals first|exact⟨fA ((aaC a).trans O),by first|exact Heap.le_refl h|assumption⟩|exact⟨dH ((aaC a).2 O),by first|exact Heap.le_refl h|assumption⟩|exact⟨bU (λe=>by have:=(aaC a).1 e;omega),by first|exact Heap.le_refl h|assumption⟩
 rw[cD a]at d;refine au d ?_;conv=>whnf
 exact⟨bU λe=>a e.1,Heap.le_refl h⟩
theorem aaW (k l:Value) (j:Option Addr) (f:Nat) (M:cr) (h:Heap):Pure prog 81 [.agg ⟨aR k (.slice j M.aq.length f) l M⟩] h (tf (wM M)):=by
 refine jc ax func81 F81 U rfl ?_;unfold aR;have i:∀ b:Bool,(M.out.ref==false&&M.out.n==0)=b->∀ w:World,(Go.binOp .eql 31 (.agg #[.bool M.out.ref,.int .i64 M.out.n]) (.agg #[.bool false,.int .i64 0])).run prog w=.ok (.bool b) w:=λb a w=>by
  rw[<-a];exact KX M.out dy w
 cases a:(M.out.ref==false&&M.out.n==0)<;>cases d:M.out.ref
 all_goals
  have e:=i _ a;rw[d]at e;conv=>whnf
  repeat' ((first|apply aC<;>intro _|apply aX<;>intro _|refine de rfl rfl (λw=>by simp[eqGuard]) e ?_)<;>conv=>whnf)
  all_goals first|exact⟨dH ((xA d a).2 (by simp only[Bool.true_eq_false,Bool.false_eq_true,and_true,and_false,true_and,false_and,or_false,false_or];omega)),Heap.le_refl h⟩|exact⟨bU (λg=>by have:=(xA d a).1 g;simp only[Bool.true_eq_false,Bool.false_eq_true,and_true,and_false,true_and,false_and,or_false,false_or]at this;omega),Heap.le_refl h⟩|exact⟨fA ((xA d a).trans (by simp only[Bool.true_eq_false,Bool.false_eq_true,and_true,and_false,true_and,false_and,or_false,false_or];omega)),Heap.le_refl h⟩
theorem aaD (q:List Value) (u:aI) (f:cJ) (xs:List Value) (n:Nat) (h:Heap) (x:dn h q u) (I:bS u) (t:qu h xs f):Pure prog 79 [.agg ⟨q⟩,.agg ⟨xs⟩,.int .i64 n] h (tf (tM u n f)):=by
 obtain⟨T,G,X,H,rfl,L,s,M,N⟩:=x.form;obtain⟨B,C,rfl,l,m⟩:=t;have j:=aau B f.locals n h l;have k:=aau C f.stack n h m;obtain⟨V,E,rfl,J,P⟩:=l.len;obtain⟨W,F,rfl,K,Q⟩:=m.len;refine jc ax func79 F79 U rfl ?_;by_cases g:0<=f.aG/\f.aG < u.methods.length
 ·obtain⟨b,S,Y,w,p,o⟩:=s.get (i:=f.aG.toNat) O;have r:u.methods[f.aG.toNat]'O=bz u f.aG:=by unfold bz;rw[List.getD_eq_getElem?_getD,List.getElem?_eq_getElem O];rfl
  rw[r]at o;obtain⟨_,_,_,_,rfl,_,_,_,_,_,D,_,_⟩:=o;obtain⟨_,_,rfl,_,_⟩:=D.len;have y:=aJ p (i:=4) rfl;have z:=aJ p (i:=5) rfl;conv=>whnf
  repeat' ((first|apply aC<;>intro _|refine aL w ?_|refine ay ?_|refine ld z ?_|refine ld y ?_|refine av ?_|refine aP (dW _ _ _ h) ?_|apply And.intro|exact trivial)<;>conv=>whnf)
  all_goals try first|exact⟨bU (KY O),Heap.le_refl h⟩|(exfalso;omega)
  by_cases d:∀ v∈f.locals,jz n v
  ·rw[eg d]at j;refine aP j ?_;conv=>whnf
   by_cases e:∀ v∈f.stack,jz n v
   ·rw[eg e]at k;refine aP k ?_;conv=>whnf
    exact⟨dH ((xB g).2 ⟨O,O,O,d,e⟩),Heap.le_refl h⟩
   rw[cD e]at k;refine aP k ?_;conv=>whnf
   exact⟨bU (λa=>e ((xB g).1 a).2.2.2.2),Heap.le_refl h⟩
  rw[cD d]at j;refine aP j ?_;conv=>whnf
  exact⟨bU (λa=>d ((xB g).1 a).2.2.2.1),Heap.le_refl h⟩
 conv=>whnf
 repeat' ((first|apply aC<;>intro _|apply aX<;>intro _|refine av ?_|refine aP (dW _ _ _ h) ?_|apply And.intro|exact trivial)<;>conv=>whnf)
 all_goals first|exact⟨bU (λa=>g a.1),Heap.le_refl h⟩|(exfalso;omega)
theorem aaQ (W Q:List Value) (u:aI) (M:cr) (h:Heap) (I:dn h W u) (hM:AY h Q M):Pure prog 31 [.agg ⟨W⟩,.agg ⟨Q⟩] h (tf (bS u/\kn u M)):=by
 have P:=I;have x:=vj _ u h I;obtain⟨T,J,V,K,rfl,hcs,lR,jq,hl2⟩:=I.form;obtain⟨vo,vf,vs,rfl,X,Y,w3⟩:=hM;have g:=aaH M.out M.objs.length h;unfold dO at g;obtain⟨B,v,rfl,ZN,PB⟩:=X.len;obtain⟨z,t,rfl,ZO,Ly⟩:=Y.len;obtain⟨C,w,rfl,ZP,ZQ⟩:=w3.len;have L:=aaW (.slice B M.objs.length v) (.slice C M.said.length w) z t M h;refine jc ax func31 F31 U rfl ?_;unfold aR at L ⊢;conv=>whnf
 by_cases o:bS u
 ·rw[eg o]at x;refine au x ?_;conv=>whnf
  by_cases E:(0<=M.steps/\M.steps<=200)/\(7<=M.objs.length/\M.objs.length<=207)/\M.aq.length<=4/\M.said.length<=200
  ·by_cases n:jz M.objs.length M.out
   ·rw[eg n]at g;repeat' ((first|refine eO ?_|refine bZ ?_|refine au (dW _ _ _ h) ?_|refine au g ?_)<;>conv=>whnf)
    refine eF [2,3,5,6] [2,3] (λi:Nat=>i<=M.objs.length/\∀ j (F:j < M.objs.length),j < i->ZL u M.objs.length j M.objs[j]) (λi=>M.objs.length-i)
     (λi=>([.l 2 0,.l 3 0,.v (.int .i64 M.objs.length),.v (.int .i64 i)],[some [.slice T u.ak.length J,.slice V u.methods.length K],some [.slice B M.objs.length v,.slice z M.aq.length t,.slice C M.said.length w,.int .i64 M.steps,.int .i64 M.fin,.bool M.out.ref,.int .i64 M.out.n]],h)) 0 ⟨Nat.zero_le _,λ_ _ h=>absurd h O⟩ rfl ?_
    rintro i ⟨N,F⟩;conv=>whnf
    apply aC<;>intro p;all_goals conv=>whnf
    ·have f:i < M.objs.length:=by omega
     obtain⟨b,S,D,k,m,l⟩:=X.get f;have e:=aaV _ u M.objs[i] D M.objs.length h P o l;obtain⟨ad,rfl,_⟩:=l;have r:=aJ m (i:=0) rfl;by_cases d:Em u M.objs.length M.objs[i]
     ·rw[eg d]at e;repeat' ((first|apply aC<;>intro _|apply aX<;>intro _|refine aL k ?_|refine ay ?_|refine dZ m ?_|refine ld r ?_|refine aP e ?_|refine av ?_|apply And.intro|exact trivial)<;>conv=>whnf)
      ·exact⟨bU (λa=>by have:=(((HY u M).1 a.2).2.2.1 i f).2 O;omega),Heap.le_refl h⟩
      all_goals exact cL (i+1) ⟨O,λj y hjj=>by
       by_cases GL:j=i
       ·subst GL;exact⟨d,O⟩
       exact F j y O⟩ O rfl
     rw[cD d]at e;repeat' ((first|refine aL k ?_|refine ay ?_|refine dZ m ?_|refine ld r ?_|refine aP e ?_|apply And.intro|exact trivial)<;>conv=>whnf)
     exact⟨bU λa=>d (((HY u M).1 a.2).2.2.1 i f).1,Heap.le_refl h⟩
    have q:i=M.objs.length:=by omega
    subst q;refine eF [2,3,5,7] [2,3] (λi:Nat=>i<=M.aq.length/\∀ aa∈M.aq.take i,tM u M.objs.length aa) (λi=>M.aq.length-i)
     (λi=>([.l 2 0,.l 3 0,.v (.int .i64 M.objs.length),.v (.int .i64 i)],[some [.slice T u.ak.length J,.slice V u.methods.length K],some [.slice B M.objs.length v,.slice z M.aq.length t,.slice C M.said.length w,.int .i64 M.steps,.int .i64 M.fin,.bool M.out.ref,.int .i64 M.out.n]],h)) 0 ⟨Nat.zero_le _,Z⟩ rfl ?_
    rintro i ⟨N,G⟩;conv=>whnf
    apply aC<;>intro p;all_goals conv=>whnf
    ·have f:i < M.aq.length:=by omega
     obtain⟨b,S,D,k,m,l⟩:=Y.get f;have e:=aaD _ u M.aq[i] D M.objs.length h P o l;obtain⟨v1,v2,rfl,_⟩:=l;by_cases d:tM u M.objs.length M.aq[i]
     ·rw[eg d]at e;repeat' ((first|refine aL k ?_|refine ay ?_|refine dZ m ?_|refine aP e ?_|refine av ?_|apply And.intro|exact trivial)<;>conv=>whnf)
      exact cL (i+1) ⟨O,take_one f G d⟩ O rfl
     rw[cD d]at e;repeat' ((first|refine aL k ?_|refine ay ?_|refine dZ m ?_|refine aP e ?_|apply And.intro|exact trivial)<;>conv=>whnf)
     exact⟨bU λa=>d (((HY u M).1 a.2).2.2.2.1 _ (List.getElem_mem f)),Heap.le_refl h⟩
    have q:i=M.aq.length:=by omega
    subst q;rw[List.take_length]at G;refine eF [3,8] [3] (λi:Nat=>i<=M.said.length/\∀ ab∈M.said.take i,isWord ab=true) (λi=>M.said.length-i)
     (λi=>([.l 3 0,.v (.int .i64 i)],[some [.slice B M.objs.length v,.slice z M.aq.length t,.slice C M.said.length w,.int .i64 M.steps,.int .i64 M.fin,.bool M.out.ref,.int .i64 M.out.n]],h)) 0 ⟨Nat.zero_le _,Z⟩ rfl ?_
    rintro i ⟨N,H⟩;conv=>whnf
    apply aC<;>intro p;all_goals conv=>whnf
    ·have f:i < M.said.length:=by omega
     obtain⟨b,S,D,k,m,l⟩:=w3.get f;have e:=tE M.said[i] h;unfold AX at l;subst l;have r:=aJ m (i:=0) rfl;by_cases d:isWord M.said[i]=true
     ·rw[d]at e;repeat' ((first|refine aL k ?_|refine ay ?_|refine ld r ?_|refine au e ?_|refine av ?_)<;>conv=>whnf)
      exact cL (i+1) ⟨O,take_one f H d⟩ O rfl
     rw[show isWord M.said[i]=false by simpa using d]at e;repeat' ((first|refine aL k ?_|refine ay ?_|refine ld r ?_|refine au e ?_)<;>conv=>whnf)
     exact⟨bU λa=>d (((HY u M).1 a.2).2.2.2.2.1 _ (List.getElem_mem f)),Heap.le_refl h⟩
    have q:i=M.said.length:=by omega
    subst q;rw[List.take_length]at H;refine au L ?_;conv=>whnf
    refine⟨?_,Heap.le_refl h⟩;by_cases s:wM M
    ·rw[eg s];exact dH (And.intro o <| (HY u M).2 ⟨E,n,λj y=>F j y y,G,H,s⟩)
    rw[cD s];exact bU λa=>s ((HY u M).1 a.2).2.2.2.2.2
   rw[cD n]at g;repeat' ((first|refine eO ?_|refine bZ ?_|refine au (dW _ _ _ h) ?_|refine au g ?_)<;>conv=>whnf)
   exact⟨bU λa=>n ((HY u M).1 a.2).2.1,Heap.le_refl h⟩
  by_cases n:jz M.objs.length M.out
  ·rw[eg n]at g;repeat' ((first|apply aC<;>intro _|apply aX<;>intro _|refine au (dW _ _ _ h) ?_|refine au g ?_|(exfalso;omega)|exact⟨bU λa=>E ((HY u M).1 a.2).1,Heap.le_refl h⟩)<;>conv=>whnf)
  rw[cD n]at g;repeat' ((first|apply aC<;>intro _|apply aX<;>intro _|refine au (dW _ _ _ h) ?_|refine au g ?_|(exfalso;omega)|exact⟨bU λa=>E ((HY u M).1 a.2).1,Heap.le_refl h⟩)<;>conv=>whnf)
 rw[cD o]at x;refine au x ?_;conv=>whnf
 exact⟨bU λa=>o a.1,Heap.le_refl h⟩
section
variable {h:Heap} {bu bm b5 b6:Nat} {p q po pf ps:Option Addr} {cc d co cf cs:Nat} {u:aI} {M:cr}
end
theorem aaX (d i:List Value) (u:aI) (M:cr) (h:Heap) (f:dn h d u) (j:AY h i M):Pure prog 13 [.agg ⟨d⟩,.agg ⟨i⟩] h (tf (bS u/\kn u M)):=by
 have l:=yw d u h f;have k:=λa=>F1 d i u M h f a j;obtain⟨G,p,K,t,rfl,y,C,z,B⟩:=f.form;obtain⟨N,L,P,rfl,m,n,o⟩:=j;obtain⟨I,r,rfl,x,E⟩:=m.len;obtain⟨H,q,rfl,w,D⟩:=n.len;obtain⟨J,s,rfl,v,F⟩:=o.len;unfold aR at k ⊢;refine jc ax func13 F13 U rfl ?_;conv=>whnf
 refine j6 l (λa=>?_) (λa=>?_)
 ·conv=>whnf
  refine j6 (k a) (λe=>?_) (λe=>?_)
  ·conv=>whnf
   exact⟨dH ⟨a,e⟩,Heap.le_refl h⟩
  conv=>whnf
  exact⟨bU λg=>e g.2,Heap.le_refl h⟩
 conv=>whnf
 exact⟨bU λg=>a g.1,Heap.le_refl h⟩
open Go.Vc Go.Proofs.Tryz
set_option maxRecDepth 100000
set_option maxHeartbeats 4000000
section
variable {u u':aI}
end
open Go.Vc Go.Proofs.Tryz
set_option maxRecDepth 100000
set_option maxHeartbeats 4000000
section
variable {u u':aI}
end
open Go.Vc Go.Proofs.Tryz
set_option maxRecDepth 100000
set_option maxHeartbeats 4000000
theorem aaz (u:aI) (M:cr) (p:Option Addr) (c:Nat) (v:Vl) (h:Heap) (o:Row 2 uG h (.slice p M.objs.length c) M.objs) (f:bS u) (e:kn u M) (r:jz M.objs.length v):Pure prog 36 [.slice p M.objs.length c,.agg #[.bool v.ref,.int .i64 v.n]] h (.int .i64 (sO M.objs v)):=by
 have y:=e.len;have x:=f.1.2.1;refine jc ax func36 Ww U rfl ?_;conv=>whnf
 cases a:v.ref
 ·conv=>whnf
  exact⟨by unfold sO;rw[if_pos a],Heap.le_refl h⟩
 have n:=r.1 a;conv=>whnf
 apply aC<;>intro g;all_goals conv=>whnf
 ·exact⟨by unfold sO;rw[if_neg (by simp[a]),if_pos g],Heap.le_refl h⟩
 have j:(v.n-1).toNat < M.objs.length:=by omega
 have l:aM M.objs v.n=M.objs[(v.n-1).toNat]:=by unfold aM;rw[List.getD_eq_getElem?_getD,List.getElem?_eq_getElem j];rfl
 obtain⟨b,z,C,q,t,s⟩:=o.get j;obtain⟨B,rfl,_⟩:=s;have w:=aJ t (i:=0) rfl;have m:=sP f e (k:=v.n) O n.2;have d:sO M.objs v=typeOf (aM M.objs v.n).cls:=by unfold sO;rw[if_neg (by simp[a]),if_neg g]
 rw[l]at m d;unfold typeOf at d;repeat' ((first|apply aC<;>intro _|refine aL q ?_|refine ay ?_|refine av ?_|refine ld w ?_)<;>conv=>whnf)
 all_goals exact⟨by rw[d];repeat' split<;>first|rfl|(exfalso;omega),Heap.le_refl h⟩
theorem aav (D:List Value) (u:aI) (M:cr) (p:Option Addr) (c:Nat) (E F:Value) (l:List Vl) (a:List Int) (h:Heap) (S:dn h D u) (N:Row 2 uG h (.slice p M.objs.length c) M.objs) (m:bS u) (s:kn u M) (y:Row 2 FR h E l) (L:∀ x∈l,jz M.objs.length x) (z:bP h F a) (Q:∀ ab∈a,ab < 8+(u.ak.length:Int)) :
  Pure prog 33 [.agg ⟨D⟩,.slice p M.objs.length c,E,F] h (tf (jP u.ak M.objs l a)):=by
 obtain⟨B,r,aa,I,rfl,J,lR,jq,hl2⟩:=S.form;obtain⟨X,G,rfl,hc,hn⟩:=y.len;obtain⟨Y,H,rfl,hd,hm⟩:=z.len;refine jc ax func33 F33 U rfl ?_;conv=>whnf
 apply aC<;>intro k;all_goals conv=>whnf
 ·exact⟨bU λq=>by have:=q.1;omega,Heap.le_refl h⟩
 refine eF [1,2,3,4,9] [4] (λi:Nat=>i<=l.length/\∀ j (e:j < l.length) (f:j < a.length),j < i->dQ u.ak (sO M.objs l[j]) a[j]=true) (λi=>l.length-i)
  (λi=>([.v (.slice p M.objs.length c),.v (.slice X l.length G),.v (.slice Y a.length H),.l 4 0,.v (.int .i64 i)],[some [.slice B u.ak.length r,.slice aa u.methods.length I]],h)) 0 ⟨Nat.zero_le _,λ_ _ _ h=>absurd h O⟩ rfl ?_
 rintro i ⟨hi,t⟩;conv=>whnf
 apply aC<;>intro k;all_goals conv=>whnf
 ·have n:i < l.length:=by omega
  have o:i < a.length:=by omega
  obtain⟨b,off,xs,P,r1,V⟩:=y.get n;obtain⟨b',z6,ys,w,r2,W⟩:=z.get o;have v:=L _ (List.getElem_mem n);have T:=aaz u M p c l[i] h N m s v;have g:=qS B u.ak.length r u.ak (sO M.objs l[i]) a[i] h J m.1 (T6 m s v).2 (Q _ (List.getElem_mem o));obtain rfl:=V;obtain⟨rfl,_⟩:=W;have C:=aJ r2 (i:=0) rfl;repeat' ((first|refine aL P ?_|refine aL w ?_|refine ay ?_|refine dZ r1 ?_|refine ld C ?_|apply And.intro|exact trivial)<;>conv=>whnf)
  refine aP T ?_;conv=>whnf
  repeat' ((first|refine aL w ?_|refine ay ?_|refine ld C ?_|apply And.intro|exact trivial)<;>conv=>whnf)
  by_cases d:dQ u.ak (sO M.objs l[i]) a[i]=true
  ·rw[d]at g;refine aP g ?_;conv=>whnf
   refine av ?_;conv=>whnf
   exact cL (i+1) ⟨O,λj e f h3=>by
    by_cases K:j=i
    ·subst K;exact d
    exact t j e f O⟩ O rfl
  rw[show dQ u.ak (sO M.objs l[i]) a[i]=false by simpa using d]at g;refine aP g ?_;conv=>whnf
  exact⟨bU λq=>d (q.2 i n o),Heap.le_refl h⟩
 exact⟨dH ⟨O,λj e f=>t j e f O⟩,Heap.le_refl h⟩
theorem aaA {u:aI} (a:bS u) {o:Ob} (e:o.cls < u.ak.length) (g:o.bp.length<=1000):(∀ t∈eG u o,cy t/\t < 8+(u.ak.length:Int))/\(eG u o).length<=1000:=by
 have i:=a.1.1;have j:=a.1.2.1;unfold eG;split
 ·refine⟨λt d=>?_,by have:=eL a.1 e;omega⟩;have:=dS (eM a.1 (o.cls.toNat+1) O e t d);unfold cy;omega
 refine⟨λt d=>?_,by simpa using g⟩;have f:=(List.mem_replicate.1 d).2;unfold cy;split at f<;>omega
theorem aaI {P:Value->Heap->Prop} {X:List PanicEntry->Heap->Prop} (W xs:List Value) (u:aI) (o:Ob) (h:Heap) (hu:dn h W u) (S:bS u) (ho:uG h xs o) (T:o.cls < u.ak.length) (hl:o.bp.length<=1000)
  (hK:∀ h' p c,h.le h'->bP h' (.slice p (eG u o).length c) (eG u o)->P (.slice p (eG u o).length c) h'):gD prog 34 [.agg ⟨W⟩,.agg ⟨xs⟩] h P X:=by
 obtain⟨hi,mC⟩:=aaA S T hl;obtain⟨p,Q,ab,aa,rfl,hcs,lR,jq,hl2⟩:=hu.form;obtain⟨v,rfl,hv⟩:=ho;obtain⟨M,w,rfl,_,_⟩:=hv.len;have main:bq prog 34 [.agg #[.slice p u.ak.length Q,.slice ab u.methods.length aa],.agg #[.int .i64 o.cls,.slice M o.bp.length w]] h λv h'=>h.le h'/\∃ B,dM h' v (eG u o) B:=by
  refine bE ax func34 F34 U rfl ?_;conv=>whnf
  apply aC<;>intro q;all_goals conv=>whnf
  ·refine aB (jt _ p u.ak.length Q u.ak o.cls h hcs S.1 q T (Nat.lt_succ_self _)) (λv r F=>?_);obtain⟨d,B,a,_⟩:=F;conv=>whnf
   exact⟨d,B,by unfold eG;rw[if_pos q];exact a⟩
  have C:∀ t,(if o.cls = -2 then (8:Int)else 1)=t->eG u o=List.replicate o.bp.length t:=λt I=>by unfold eG;rw[if_neg q,I]
  generalize eG u o=ad at C;apply aC<;>intro y;all_goals conv=>whnf
  ·skip
   rw[(C 8 (if_pos y))];refine cZ [] rfl (λj r D e0 d x=>?_);conv=>whnf
   refine eF [3,5,6] [3] (λs:Nat × Heap × Option Addr × Nat × List Nat=>s.1<=o.bp.length/\h.le s.2.1/\dM s.2.1 (.slice s.2.2.1 s.1 s.2.2.2.1) (List.replicate s.1 8) s.2.2.2.2/\∀ b∈s.2.2.2.2,h b=none) (λs=>o.bp.length-s.1)
    (λs=>([.l 3 0,.v (.int .i64 8),.v (.slice s.2.2.1 s.1 s.2.2.2.1)],[some [.int .i64 o.cls,.slice M o.bp.length w]],s.2.1)) (0,r,some ⟨j,0,none⟩,0,[j]) ⟨Nat.zero_le _,d,dL x,by simpa using D⟩ rfl ?_
   rintro⟨i,h2,pp,Y,B⟩ ⟨G,f,a,l⟩;simp only at G f a l ⊢;conv=>whnf
   apply aC<;>intro z;all_goals conv=>whnf
   ·refine dh (h0:=h) (xs:=(List.replicate i 8).map bD) (ys:=[bD 8]) a l f rfl rfl (by simp[bD]) rfl rfl (by simp;omega) (by simp;omega) (λN m g J K L k4 k5=>?_);have e:dM m N (List.replicate (i+1) 8) g:=by
     unfold dM;rw[List.replicate_succ',List.map_append];exact K
    have E:=bY.form e;obtain⟨n,k,rfl,_⟩:=E;rw[List.length_map,List.length_replicate]at e ⊢;conv=>whnf
    exact cL (i+1,m,n,k,g) ⟨by simp only;omega,J,e,L⟩ (by simp only;omega) rfl
   have H:i=o.bp.length:=by omega
   subst H;exact⟨f,B,a⟩
  skip
  rw[(C 1 (if_neg y))];refine cZ [] rfl (λj r D e0 d x=>?_);conv=>whnf
  refine eF [3,5,6] [3] (λs:Nat × Heap × Option Addr × Nat × List Nat=>s.1<=o.bp.length/\h.le s.2.1/\dM s.2.1 (.slice s.2.2.1 s.1 s.2.2.2.1) (List.replicate s.1 1) s.2.2.2.2/\∀ b∈s.2.2.2.2,h b=none) (λs=>o.bp.length-s.1)
   (λs=>([.l 3 0,.v (.int .i64 1),.v (.slice s.2.2.1 s.1 s.2.2.2.1)],[some [.int .i64 o.cls,.slice M o.bp.length w]],s.2.1)) (0,r,some ⟨j,0,none⟩,0,[j]) ⟨Nat.zero_le _,d,dL x,by simpa using D⟩ rfl ?_
  rintro⟨i,h2,pp,Y,B⟩ ⟨G,f,a,l⟩;simp only at G f a l ⊢;conv=>whnf
  apply aC<;>intro z;all_goals conv=>whnf
  ·refine dh (h0:=h) (xs:=(List.replicate i 1).map bD) (ys:=[bD 1]) a l f rfl rfl (by simp[bD]) rfl rfl (by simp;omega) (by simp;omega) (λN m g J K L k4 k5=>?_);have e:dM m N (List.replicate (i+1) 1) g:=by
    unfold dM;rw[List.replicate_succ',List.map_append];exact K
   have E:=bY.form e;obtain⟨n,k,rfl,_⟩:=E;rw[List.length_map,List.length_replicate]at e ⊢;conv=>whnf
   exact cL (i+1,m,n,k,g) ⟨by simp only;omega,J,e,L⟩ (by simp only;omega) rfl
  have H:i=o.bp.length:=by omega
  subst H;exact⟨f,B,a⟩
 exact cP main λv h' F=>by
  obtain⟨d,B,a⟩:=F;obtain⟨n,k,rfl,_⟩:=bY.form a;have V:=cM a O (λt I=>(hi t I).1);rw[V.1];exact⟨d,hK h' n k d V.2⟩
theorem aaY (u:aI) (c s:Int) (d:1<=u.methods.length):∀ k,kK u s k c < u.methods.length:=by
 intro k;induction k generalizing c with
 | zero=>rw[kK];omega
 | succ k a =>
  rw[kK];split
  ·split
   ·rcases tJ (c:=c) (s:=s) u.methods 0 with h|h<;>omega
   exact a _
  omega
theorem aaE (V:List Value) (u:aI) (M:cr) (vo vs:Value) (T:Option Addr) (y:Nat) (i:Nat) (h:Heap) (I:dn h V u) (a:bS u) (r:kn u M) (E:Row 4 qu h (.slice T M.aq.length y) M.aq) (G:i+1 < M.aq.length)
  (OM:M.aq[i].pc < (bz u M.aq[i].aG).code.length) (m:(jQ u M.aq[i]).kind=20\/(jQ u M.aq[i]).kind=21/\0<=find u (jQ u M.aq[i]).a (jQ u M.aq[i]).b) :
  Pure prog 84 [.agg ⟨V⟩,.agg ⟨aR vo (.slice T M.aq.length y) vs M⟩,.int .i64 i] h (.bool (dQ u.ak (bz u M.aq[i+1].aG).out (bz u (K8 u (jQ u M.aq[i]))).out)):=by
 have tH:=I;have Ly:=r.nf;obtain⟨aa,Y,ae,ab,rfl,hcs,t,jq,hl2⟩:=I.form;obtain⟨b,off,xs,n,r1,L⟩:=E.get (i:=i) O;obtain⟨b2,RA,ys,v,r2,N⟩:=E.get G;rw[n]at v;simp only[Option.some.injEq,Addr.mk.injEq,and_true]at v;obtain⟨rfl,rfl⟩:=v;have q:=r.jX _ (List.getElem_mem (show i < M.aq.length by omega));have D:=r.jX _ (List.getElem_mem G);generalize M.aq[i]=f at L OM m q ⊢;generalize M.aq[i+1]=B at N D ⊢;obtain⟨w1,w2,rfl,e1,e2⟩:=L;obtain⟨_,_,rfl,_,_⟩:=e1.len;obtain⟨_,_,rfl,_,_⟩:=e2.len;obtain⟨w3,w4,rfl,_⟩:=N;have H:=q.1;have hp0:=q.2.1.1;have F:=D.1;obtain⟨bm,om,Lt,g,k1,P⟩:=t.get (i:=f.aG.toNat) O;obtain⟨X,om',aar,d,k2,Q⟩:=t.get (i:=B.aG.toNat) O;rw[g]at d;simp only[Option.some.injEq,Addr.mk.injEq,and_true]at d;obtain⟨rfl,rfl⟩:=d;rw[j7 H]at P;rw[j7 F]at Q;obtain⟨_,_,_,_,rfl,_,_,_,_,_,W,_⟩:=P;obtain⟨pc1,cc1,rfl,_,_⟩:=W.len;obtain⟨_,_,_,_,rfl,_⟩:=Q;have s:f.pc.toNat < (bz u f.aG).code.length:=by omega
 have z:jQ u f=(bz u f.aG).code[f.pc.toNat]:=by unfold jQ;rw[List.getD_eq_getElem?_getD,List.getElem?_eq_getElem s];rfl
 obtain⟨bc,oc,ws,hc,w,i3⟩:=W.get s;obtain⟨rfl,_⟩:=i3;rw[<-z]at w;have hx:dw u (bz u f.aG) (jQ u f):=by rw[z];exact(a.bz H).2.1.2.2.2.1 _ (List.getElem_mem s)
 have o:=iF hx;generalize jQ u f=x at m w o ⊢;have kf:=λh0 hl=>pL _ u x.a x.b h tH a.1 h0 hl;have j:0<=K8 u x/\K8 u x < u.methods.length:=by
  unfold K8;rcases m with C|⟨e,h0⟩
  ·rw[if_neg O];exact o.1 C
  rw[if_pos e];exact⟨h0,aaY u x.a x.b a.2.1.1 _⟩
 obtain⟨X,om',aar,d,k3,S⟩:=t.get (i:=(K8 u x).toNat) O;rw[g]at d;simp only[Option.some.injEq,Addr.mk.injEq,and_true]at d;obtain⟨rfl,rfl⟩:=d;rw[j7 j]at S;obtain⟨_,_,_,_,rfl,_⟩:=S;have o1:=(a.bz F).1.2.2.1;have o2:=(a.bz j).1.2.2.1;have k:=qS aa u.ak.length Y u.ak (bz u B.aG).out (bz u (K8 u x)).out h hcs a.1 (by unfold bL at o1;have:=a.1.1;omega) (by unfold bL at o2;have:=a.1.1;omega);have la:=aJ k1 (i:=5) rfl;have J:=aJ k2 (i:=3) rfl;have l:=aJ k3 (i:=3) rfl;have K:=aJ r2 (i:=0) rfl;refine jc ax func84 F84 U rfl ?_;unfold aR;conv=>whnf
 repeat' ((first|refine aL n ?_|refine aL g ?_|refine aL hc ?_|refine ay ?_|refine dZ r1 ?_|refine dZ w ?_|refine ld la ?_|apply And.intro|exact trivial)<;>conv=>whnf)
 rcases m with C|⟨e,h0⟩
 ·have p:K8 u x=x.a:=by unfold K8;rw[if_neg O]
  rw[p]at l k j ⊢;refine bZ ?_;conv=>whnf
  repeat' ((first|refine aL n ?_|refine aL g ?_|refine ay ?_|refine ld K ?_|refine ld J ?_|refine ld l ?_|refine av ?_|apply And.intro|exact trivial)<;>conv=>whnf)
  all_goals refine aP k ?_
  all_goals conv=>whnf
  all_goals exact⟨rfl,Heap.le_refl h⟩
 have p:K8 u x=find u x.a x.b:=by unfold K8;rw[if_pos e]
 rw[p]at l k j ⊢;refine dm ?_;conv=>whnf
 refine au (kf (by have:=o.2 e;omega) (o.2 e).2) ?_;generalize find u x.a x.b=ad at l k j ⊢;conv=>whnf
 repeat' ((first|refine aL n ?_|refine aL g ?_|refine ay ?_|refine ld K ?_|refine ld J ?_|refine ld l ?_|refine av ?_|apply And.intro|exact trivial)<;>conv=>whnf)
 all_goals refine aP k ?_
 all_goals conv=>whnf
 all_goals exact⟨rfl,Heap.le_refl h⟩
theorem aaL {u:aI} (a:bS u) (x:dc):bG u x<=100:=by
 unfold bG;have d:=qx a x.a;have e:=qx a (find u x.a x.b);repeat' split
 all_goals omega
theorem aaw (Y:List Value) (u:aI) (M:cr) (y:Option Addr) (p:Nat) (vs:Value) (V:Option Addr) (F:Nat) (i:Nat) (h:Heap) (hu:dn h Y u) (k:bS u) (s:kn u M) (ho:Row 2 uG h (.slice y M.objs.length p) M.objs) (hf:Row 4 qu h (.slice V M.aq.length F) M.aq) (hs:∃ ab c,vs=.slice ab M.said.length c) (hi:i < M.aq.length) :
  bq prog 35 [.agg ⟨Y⟩,.agg ⟨aR (.slice y M.objs.length p) (.slice V M.aq.length F) vs M⟩,.int .i64 i] h λad h'=>h.le h'/\ad=tf (VQ u M i M.aq[i]):=by
 have t:=hu;have Ly:=s.nf;obtain⟨psd,csd,rfl⟩:=hs;have o:=λa (e:h.le a) n OM I=>aaE Y u M (.slice y M.objs.length p) (.slice psd M.said.length csd) V F i a (t.le e) k s (hf.le e λ_ _ j=>qu.le e j) n OM I;obtain⟨ab,cc,q,ae,rfl,hcs,lR,jq,hl2⟩:=hu.form;obtain⟨b,off,xs,hp,r1,m1⟩:=hf.get hi;have r:=s.jX _ (List.getElem_mem hi);generalize X0:M.aq[i]=f at m1 r o ⊢;obtain⟨w1,w2,rfl,e1,e2⟩:=m1;have hm:=r.1;have hp0:=r.2.1.1;have v:=λa (e:h.le a) aa X N l=>aav _ u M y p w1 aa f.locals X a (t.le e) (ho.le e λ_ _ j=>uG.le e j) k s (e1.le e λ_ _ j=>j) r.2.2.2.2.1 N l;have w:=λa (e:h.le a) aa X N l=>aav _ u M y p w2 aa f.stack X a (t.le e) (ho.le e λ_ _ j=>uG.le e j) k s (e2.le e λ_ _ j=>j) r.2.2.2.2.2 N l;obtain⟨pl,cl,rfl,_,_⟩:=e1.len;obtain⟨pk,ck,rfl,_,LD⟩:=e2.len;obtain⟨bm,om,Lt,hq,P,T⟩:=lR.get (i:=f.aG.toNat) O;rw[j7 hm]at T;have E:=k.bz hm;have aam:=yZ _ Lt u (bz u f.aG) h t T k.N2 E.Pj;have hV:=LO k E;have hSl:=Jf u (bz u f.aG);obtain⟨q1,z1,q2,z2,q3,z3,q4,z4,rfl,_,_,_,_,_,w6,_⟩:=T.form;have S:=aJ P (i:=5) rfl;have G:∀(g:f.pc.toNat < (bz u f.aG).code.length),jQ u f=(bz u f.aG).code[f.pc.toNat]:=λg=>by unfold jQ;rw[List.getD_eq_getElem?_getD,List.getElem?_eq_getElem g];rfl
 have Q:=λa (e:h.le a) (g:f.pc.toNat < (bz u f.aG).code.length)=>rQ _ u (jQ u f).kind (jQ u f).a (jQ u f).b a (t.le e) k.1 (iF (m:=bz u f.aG) (by rw[G g];exact E.2.1.2.2.2.1 _ (List.getElem_mem g))).1 (iF (m:=bz u f.aG) (by rw[G g];exact E.2.1.2.2.2.1 _ (List.getElem_mem g))).2;refine bE ax func35 F35 U rfl ?_;unfold aR at o ⊢;conv=>whnf
 repeat' ((first|refine aL hp ?_|refine aL hq ?_|refine ay ?_|refine dZ r1 ?_|refine dZ P ?_|apply And.intro|exact trivial)<;>conv=>whnf)
 refine cP aam (λad a hh=>?_);obtain⟨d,sl,rfl,Dc⟩:=hh;obtain⟨aap,cS,rfl,_,_⟩:=Dc.len;refine⟨d,?_⟩;have v:=v a d;have w:=w a d;cases J:(bK u (bz u f.aG)).2
 ·conv=>whnf
  exact⟨d,bU λq=>by have:=q.ok;rw[J]at this;cases this⟩
 conv=>whnf
 apply aC<;>intro OW;all_goals conv=>whnf
 ·exact⟨d,bU λq=>by have:=q.pc;omega⟩
 have K:f.pc.toNat < (bK u (bz u f.aG)).1.length:=by omega
 have esh:fm u f=(bK u (bz u f.aG)).1[f.pc.toNat]:=by unfold fm;rw[List.getD_eq_getElem?_getD,List.getElem?_eq_getElem K];rfl
 have g:f.pc.toNat < (bz u f.aG).code.length:=by omega
 obtain⟨aag,aao,ws,hpS,aaq,aan⟩:=Dc.get K;have L:=hV _ (List.getElem_mem K);rw[<-esh]at aan L;obtain⟨y1,y2,rfl,s1,s2⟩:=aan;have v:=v y1 _ s1 (λW l=>(L.mZ W l).2);have w:=w y2 _ s2 (λW l=>(L.cA W l).2);obtain⟨py1,cy1,rfl,_,_⟩:=s1.len;obtain⟨py2,cy2,rfl,_,IM⟩:=s2.len;repeat' ((first|refine aL hpS ?_|refine ay ?_|refine dZ aaq ?_)<;>conv=>whnf)
 refine j6 v (λz=>?_) (λz=>?_);all_goals conv=>whnf
 rotate_left
 ·exact⟨d,bU λq=>z q.loc⟩
 refine j6 w (λB=>?_) (λB=>?_);all_goals conv=>whnf
 rotate_left
 ·exact⟨d,bU λq=>B q.cA⟩
 refine av ?_;conv=>whnf
 apply aC<;>intro gt;all_goals conv=>whnf
 ·exact⟨d,fA ⟨λq=>by have:=q.top O;omega,λH=>⟨J,O,z,B,λ_=>O,λh=>O,λh=>O⟩⟩⟩
 have n:i+1 < M.aq.length:=by omega
 have Q:=Q a d g;have k1':=dD d P;obtain⟨bc,oc,wi,hc,r3,i3⟩:=(w6.le d λ_ _ j=>j).get g;obtain⟨rfl,_⟩:=i3;rw[<-G g]at r3;have S:=cW d S;have o:=λI=>o a d n (by rw[X0];omega) I;rw[X0]at o;repeat' ((first|refine aL hq ?_|refine aL hc ?_|refine ay ?_|refine ld S ?_|refine dZ r3 ?_|apply And.intro|exact trivial)<;>conv=>whnf)
 refine aP Q ?_;have aai:bG u ⟨(jQ u f).kind,(jQ u f).a,(jQ u f).b⟩=bG u (jQ u f):=rfl;rw[aai];have oh:=λh0=>K9 (u:=u) (x:=jQ u f) h0;have By:bG u (jQ u f)<=100:=aaL k _;generalize D:bG u (jQ u f)=aah at oh By ⊢;conv=>whnf
 apply aC<;>intro C;all_goals conv=>whnf
 rotate_left
 ·exact⟨d,bU λq=>C (by have:=(q.low n).1;rw[D]at this;exact this)⟩
 refine av ?_;conv=>whnf
 apply aC<;>intro ge;all_goals conv=>whnf
 rotate_left
 ·exact⟨d,bU λq=>ge (by have:=(q.low n).2;rw[D]at this;omega)⟩
 refine au (o (oh C)) ?_;conv=>whnf
 refine⟨d,?_⟩;cases H:dQ u.ak (bz u M.aq[i+1].aG).out (bz u (K8 u (jQ u f))).out
 ·exact bU λq=>by have:=q.ZU n;rw[H]at this;cases this
 exact dH ⟨J,O,z,B,λh=>O,λ_=>⟨by rw[D];exact C,by rw[D];omega⟩,λ_=>H⟩
theorem aaR (n:List Value) (u:aI) (h:Heap) (l:dn h n u) (j:bS u):Pure prog 32 [.agg ⟨n⟩] h (tf (nj u)):=by
 have E:=l;obtain⟨I,o,J,p,rfl,N,y,P,Q⟩:=l.form;refine jc ax func32 F32 U rfl ?_;conv=>whnf
 refine eF [1,3] [1] (λs:Nat × Heap=>s.1<=u.methods.length/\h.le s.2/\∀ H∈u.methods.take s.1,(bK u H).2=true) (λs=>u.methods.length-s.1)
  (λs=>([.l 1 0,.v (.int .i64 s.1)],[some [.slice I u.ak.length o,.slice J u.methods.length p]],s.2)) (0,h) ⟨Nat.zero_le _,Heap.le_refl h,Z⟩ rfl ?_
 rintro⟨i,r⟩ ⟨w,a,e⟩;simp only at w a e ⊢;conv=>whnf
 apply aC<;>intro q;all_goals conv=>whnf
 ·have d:i < u.methods.length:=by omega
  have z:=y.le a λ_ _ f=>f.le a;obtain⟨L,S,K,C,F,m⟩:=z.get d;have B:=j.2.2.2.1 _ (List.getElem_mem d);have G:=yZ _ K u u.methods[i] r (E.le a) m j.N2 B.Pj;obtain⟨V,z1,W,z2,X,z3,Y,z4,rfl,_⟩:=m.form;repeat' ((first|refine aL C ?_|refine ay ?_|refine dZ F ?_|apply And.intro|exact trivial)<;>conv=>whnf)
  refine cP G (λaa t v=>?_);obtain⟨g,sl,rfl,D⟩:=v;obtain⟨T,M,rfl,_,_⟩:=D.len;refine⟨g,?_⟩;cases k:(bK u u.methods[i]).2
  ·conv=>whnf
   exact⟨bU (λf=>by have:=f _ (List.getElem_mem d);rw[k]at this;cases this),Heap.le_trans a g⟩
  conv=>whnf
  refine av ?_;conv=>whnf
  exact cL (i+1,t) ⟨by simp only;omega,Heap.le_trans a g,take_one d e k⟩ (by simp only;omega) rfl
 have x:i=u.methods.length:=by omega
 subst x;rw[List.take_length]at e;exact⟨dH e,a⟩
theorem aaJ (x T:List Value) (u:aI) (M:cr) (h:Heap) (w:dn h x u) (hQ:AY h T M):bq prog 11 [.agg ⟨x⟩,.agg ⟨T⟩] h λy h'=>h.le h'/\y=tf (Oj u M):=by
 have P:=w;have hOk:=aaQ x T u M h w hQ;have aal:=λhT=>aaR x u h w hT;obtain⟨V,B,q,aa,rfl,hcs,lR,jq,hl2⟩:=w.form;obtain⟨vo,vf,vs,rfl,Y,w2,w3⟩:=hQ;obtain⟨t,n,rfl,ZN,PB⟩:=Y.len;obtain⟨W,C,rfl,ZO,Ly⟩:=w2.len;obtain⟨X,D,rfl,ZP,ZQ⟩:=w3.len;unfold aR at hOk ⊢;refine bE ax func11 F11 U rfl ?_;conv=>whnf
 refine j6 hOk (λa=>?_) (λa=>?_);all_goals conv=>whnf
 rotate_left
 ·exact⟨Heap.le_refl h,bU λq=>a ⟨q.fit.unit,q.fit.ok⟩⟩
 refine j6 (aal a.1) (λH=>?_) (λH=>?_);all_goals conv=>whnf
 rotate_left
 ·exact⟨Heap.le_refl h,bU λq=>H q.fit.pass⟩
 apply aC<;>intro G;all_goals conv=>whnf
 ·exact⟨Heap.le_refl h,bU λq=>q.fit.fin G⟩
 have hlen:=a.2.len;refine eF [2,3,5] [2,3] (λs:Nat × Heap=>s.1<=M.objs.length/\h.le s.2/\∀ r∈M.objs.take s.1,jP u.ak M.objs r.bp (eG u r)) (λs=>M.objs.length-s.1)
  (λs=>([.l 2 0,.l 3 0,.v (.int .i64 s.1)],[some [.slice V u.ak.length B,.slice q u.methods.length aa],some [.slice t M.objs.length n,.slice W M.aq.length C,.slice X M.said.length D,.int .i64 M.steps,.int .i64 M.fin,.bool M.out.ref,.int .i64 M.out.n]],s.2)) (0,h) ⟨Nat.zero_le _,Heap.le_refl h,Z⟩ rfl ?_
 rintro⟨i,o⟩ ⟨m,j,p⟩;simp only at m j p ⊢;conv=>whnf
 apply aC<;>intro F;all_goals conv=>whnf
 ·have k:i < M.objs.length:=by omega
  have v:=Y.le j λ_ _ f=>uG.le j f;obtain⟨b,off,xs,hp,r1,m1⟩:=v.get k;have L:=a.2.objs _ (List.getElem_mem k);have I:M.objs[i].cls < u.ak.length:=by have:=a.1.1.1;rcases L.2 with h|h<;>omega
  have OS:M.objs[i].bp.length<=1000:=by
   rcases L.2 with h|h
   ·omega
   have:=eL a.1.1 I;omega
  have m1':=m1;obtain⟨y,rfl,hv⟩:=m1;have aak:=λe (d:o.le e) ad ts S N=>aav _ u M t n y ad M.objs[i].bp ts e (P.le (Heap.le_trans j d)) (v.le d λ_ _ f=>uG.le d f) a.1 a.2 (hv.le d λ_ _ f=>f) L.1 S N;obtain⟨pv,cv,rfl,_,_⟩:=hv.len;have rb:=aJ r1 (i:=1) rfl;repeat' ((first|refine aL hp ?_|refine ay ?_|refine dZ r1 ?_|refine ld rb ?_|apply And.intro|exact trivial)<;>conv=>whnf)
  refine aaI _ _ u M.objs[i] o (P.le j) a.1 m1' I OS (λe p9 c9 d S=>?_);conv=>whnf
  refine aaU (aak e d _ _ S λab N=>((aaA a.1 I OS).1 ab N).2) (λz=>?_) (λz=>?_);all_goals conv=>whnf
  ·refine av ?_;conv=>whnf
   exact cL (i+1,e) ⟨by simp only;omega,Heap.le_trans j d,take_one (Q:=λr=>jP u.ak M.objs r.bp (eG u r)) k p z⟩ (by simp only;omega) rfl
  exact⟨Heap.le_trans j d,bU λq=>z (q.fit.objs _ (List.getElem_mem k))⟩
 have J:i=M.objs.length:=by omega
 subst J;rw[List.take_length]at p;refine eF [2,3,6] [2,3] (λs:Nat × Heap=>s.1<=M.aq.length/\h.le s.2/\∀ l (p:l < M.aq.length),l < s.1->VQ u M l M.aq[l]) (λs=>M.aq.length-s.1)
  (λs=>([.l 2 0,.l 3 0,.v (.int .i64 s.1)],[some [.slice V u.ak.length B,.slice q u.methods.length aa],some [.slice t M.objs.length n,.slice W M.aq.length C,.slice X M.said.length D,.int .i64 M.steps,.int .i64 M.fin,.bool M.out.ref,.int .i64 M.out.n]],s.2)) (0,o) ⟨Nat.zero_le _,j,λ_ _ h=>absurd h O⟩ rfl ?_
 rintro⟨i,e⟩ ⟨m,d,K⟩;simp only at m d K ⊢;have v:=Y.le d λ_ _ f=>uG.le d f;have w2':=w2.le d λ_ _ f=>qu.le d f;conv=>whnf
 apply aC<;>intro F;all_goals conv=>whnf
 ·have k:i < M.aq.length:=by omega
  refine aB (aaw _ u M t n _ W C i e (P.le d) a.1 a.2 v w2' ⟨X,D,rfl⟩ k) (λy h3 hh=>?_);obtain⟨l3,rfl⟩:=hh;by_cases g:VQ u M i M.aq[i]
  rotate_left
  ·rw[cD g];conv=>whnf
   exact⟨Heap.le_trans d l3,bU λq=>g (q.fit.aq i k)⟩
  rw[eg g];conv=>whnf
  refine av ?_;conv=>whnf
  exact cL (i+1,h3) ⟨by simp only;omega,Heap.le_trans d l3,λl o e=>by
   by_cases GL:l=i
   ·subst GL;exact g
   exact K l o (by simp only at e;omega)⟩ (by simp only;omega) rfl
 have J:i=M.aq.length:=by omega
 subst J;have E:T7 u M:=⟨a.1,a.2,H,G,p,λi m=>K i m m⟩
 have kt:=aaz u M t n M.out e v a.1 a.2 a.2.out;have hvt:=T6 a.1 a.2 a.2.out;refine au kt ?_;have kl:=qS V u.ak.length B u.ak (sO M.objs M.out) 9 e (hcs.le d λ_ _ f=>f.le d) a.1.1 hvt.2 (by have:=a.1.1.1;omega);conv=>whnf
 apply aC<;>intro f1;all_goals conv=>whnf
 ·exact⟨d,fA ⟨λq=>q.done f1,λg=>⟨E,λ_=>g,λh=>O⟩⟩⟩
 apply aC<;>intro f2;all_goals conv=>whnf
 ·refine au kl ?_;conv=>whnf
  refine⟨d,?_⟩;cases g:dQ u.ak (sO M.objs M.out) 9
  ·exact bU λq=>by have:=q.T8 f2;rw[g]at this;cases this
  exact dH ⟨E,λh=>absurd h f1,λ_=>g⟩
 exact⟨d,dH ⟨E,λh=>absurd h f1,λh=>absurd h f2⟩⟩
end Go.Proofs
namespace Go.Proofs.Lb
set_option maxRecDepth 100000
set_option maxHeartbeats 4000000
open Go.RowKit Go.Extern.Stop Go.Stop Go.Extern Go.Proofs.Tryz
end Go.Proofs.Lb
namespace Go.Proofs
open Go.Vc Go.Proofs.Tryz
set_option maxRecDepth 100000
set_option maxHeartbeats 4000000
set_option pp.maxSteps 400
set_option pp.maxSteps 600
theorem aaM (a:List Value) (u:aI) (h:Heap) (b:dn h a u) (e:bS u) (d:GlE h) :
  bq prog 14 [.agg ⟨a⟩] h λv c=>h.le c/\v=tf (nj u):=by
 have f:=xI a u h b e d;obtain⟨p,j,q,k,rfl,_⟩:=b.form;refine bE ax func14 F14 U rfl ?_;conv=>whnf
 refine aB f (λv l g=>?_);obtain⟨i,m,rfl,_⟩:=g;conv=>whnf
 exact⟨i,rfl⟩
theorem aax (g:List Value) (u:aI) (k:Int) (h:Heap) (d:dn h g u) (b:bS u) (c:0<=k/\k < u.methods.length) :
  bq prog 38 [.agg ⟨g⟩,.int .i64 k] h λv j=>h.le j/\Um j v (bK u (bz u k)):=by
 have n:=yw g u h d;rw[eg b]at n;obtain⟨x,o,y,p,rfl,E,r,F,G⟩:=d.form;have m:=AZ (.slice x u.ak.length o) y u.methods.length p k h;rw[eg c]at m;obtain⟨C,H,A,t,z,f⟩:=r.get (i:=k.toNat) O;rw[j7 c]at f;have s:=xH _ A u (bz u k) h d f b (b.bz c);obtain⟨K,P,L,Q,M,R,N,S,rfl,_⟩:=f.form;refine bE ax func38 F38 U rfl ?_;conv=>whnf
 refine au n ?_;conv=>whnf
 refine au m ?_;conv=>whnf
 refine ay ?_;conv=>whnf
 refine aL t ?_;conv=>whnf
 refine dZ z ?_;conv=>whnf
 refine cP s (λv D q=>?_);obtain⟨e,a⟩:=q;refine⟨e,?_⟩;cases l:(bK u (bz u k)).2 with
 | false =>
  unfold Um at a ⊢;rw[l]at a ⊢;obtain⟨B,I,rfl⟩:=a;conv=>whnf
  exact⟨e,_,_,rfl⟩
 | true =>
  unfold Um at a ⊢;rw[l]at a ⊢;obtain⟨J,rfl,w⟩:=a;conv=>whnf
  exact⟨e,_,rfl,w⟩
theorem aaF (d:List Value) (u:aI) (k:Int) (h:Heap) (j:dn h d u) (o:bS u) (s:0<=k/\k < u.methods.length) (n:GlE h) :
  bq prog 12 [.agg ⟨d⟩,.int .i64 k] h λv f=>h.le f/\∃ l,v=.tuple #[l,.bool (bK u (bz u k)).2]/\((bK u (bz u k)).2=true->Row 3 gR f l (bK u (bz u k)).1):=by
 have p:=aax d u k h j o s;obtain⟨e,q⟩:=n;obtain⟨A,y,B,z,rfl,_⟩:=j.form;refine bE ax func12 F12 U rfl ?_;conv=>whnf
 refine aB p (λv g r=>?_);obtain⟨c,a⟩:=r;have b:=cW c q;cases i:(bK u (bz u k)).2 with
 | false =>
  unfold Um at a;rw[i]at a;obtain⟨x,w,rfl⟩:=a;conv=>whnf
  refine ld b ?_;conv=>whnf
  refine au (A1 w e g b) ?_;conv=>whnf
  exact⟨c,_,rfl,λm=>by cases m⟩
 | true =>
  unfold Um at a;rw[i]at a;obtain⟨C,rfl,t⟩:=a;conv=>whnf
  refine ld b ?_;conv=>whnf
  refine au (Ig e g) ?_;conv=>whnf
  exact⟨c,_,rfl,λ_=>t⟩
section
variable {h h':Heap} {bu bm bs:Nat} {p q po pf ps:Option Addr} {cc d co cf cs:Nat} {u:aI} {M:cr} {w:Value}
end
open Go.Vc Go.Proofs.Tryz
set_option maxRecDepth 100000
set_option maxHeartbeats 4000000
set_option pp.maxSteps 400
theorem UnM.le {g a:Heap} {v:Value} (b:g.le a) (h:UnM g v):UnM a v:=by
 obtain⟨e,u,d,M,B,rfl,c,o,s⟩:=h;exact⟨e,u,d,M,B,rfl,c.le b,o.aK (cS.of_le b _),s⟩
theorem aay (v:Value) (n:Nat) (h:Heap) (d:Bytes h v n) (e:n<=1000000000000000) (i:Pc h) :
  bq prog 9 [v] h λr b=>h.le b/\UnM b r:=by
 refine bE ax func9 aac U rfl ?_;conv=>whnf
 refine aB (Og v n h d e) ?_;rintro K y ⟨l,L,rfl,rfl,r⟩;conv=>whnf
 refine ia r (aaP r O i) (λv x H j a I J c=>?_);refine UnM.aa1 c λC z m D A p u F t E q G w M B g f o s k=>?_;subst g;unfold sE aR at o ⊢;conv=>whnf
 exact⟨Heap.le_trans j (eE a.free),_,u,_,M,B,rfl,f.le (eE a.free),o.aK (cS.of_le (eE a.free) _),s,k⟩
theorem aaN {v:Value} {n:Nat} {h:Heap} {K:Value->Heap->Prop} {E:List PanicEntry->Heap->Prop} (b:Bytes h v n) (l:n<=140737488355328) (d:∀ r a,h.le a->UnM a r->K r a):Go.Vc.Call prog 9 [v] h K E:=by
 obtain⟨f,e,c,g⟩:=Je b;exact V5 e (aay v n f c O g) (λ_ _ x=>x.1) λv k a i j x=>d v a j (x.2.le i)
theorem FnFitsTop_c (G:Value) (aa:Nat) (o:Heap) (P:Bytes o G aa) (hn:aa<=140737488355328) (hG:GlE o):Pure prog 3 [G] o (.bool true):=by
 have Zf:=P;obtain⟨af,ae,rfl,hc,_⟩:=P;refine jc ax func3 aab U rfl ?_;conv=>whnf
 apply aC<;>intro ab;all_goals conv=>whnf
 ·exact⟨rfl,Heap.le_refl o⟩
 refine aaN Zf hn λv0 N r hA=>?_;refine UnM.elim hA λpc n1 cc pm n2 cm u po co pf cf pw cw M B0 hv q o0 sm=>?_;subst hv;have k:=o0.VP sm.small.ZK;have Q:=hG.le r;obtain⟨vo,vf,vs,aaj,x1,x2,x3⟩:=id k;unfold sE aR at o0 k ⊢;have F:=λh (e:N.le h)=>aaJ _ _ u M h (q.le e) (k.le e);conv=>whnf
 refine qB (Lm _ _ u M N q k Q) (λh e c=>?_) (λh e c=>?_);all_goals conv=>whnf
 all_goals refine qB (F h e) (λj W m=>?_) (λj W m=>?_)
 all_goals first|exact absurd c m|exact absurd m c|skip
 all_goals conv=>whnf
 all_goals have l:=Heap.le_trans e W
 rotate_left
 ·refine qB (F j l) (λd b g=>?_) (λd b g=>?_)
  ·exact absurd g c
  conv=>whnf
  exact⟨rfl,Heap.le_trans r (Heap.le_trans l b)⟩
 apply aC<;>intro g0;all_goals conv=>whnf
 ·refine qB (F j l) (λd b g=>?_) (λd b g=>?_)
  ·conv=>whnf
   exact⟨rfl,Heap.le_trans r (Heap.le_trans l b)⟩
  exact absurd c g
 have z:=c.fit.unit;have y:=c.fit.ok;have Ly:=y.nf;have tH:=q;refine eF [3,4,6] [3,4] (λs:Nat × Heap=>s.1<=M.aq.length/\j.le s.2) (λs=>M.aq.length-s.1)
  (λs=>([.l 3 0,.l 4 0,.v (.int .i64 s.1)],[some [.slice pc n1 cc,.slice pm n2 cm],some [.slice po M.objs.length co,.slice pf M.aq.length cf,.slice pw M.said.length cw,.int .i64 M.steps,.int .i64 M.fin,.bool M.out.ref,.int .i64 M.out.n]],s.2)) (0,j) ⟨Nat.zero_le _,Heap.le_refl _⟩ rfl ?_
 rintro⟨i,d⟩ ⟨hi,b⟩;simp only at hi b ⊢;have t:=Heap.le_trans l b;have C:=q.le t;have S:=k.le t;have R:=Q.le t;conv=>whnf
 apply aC<;>intro g1;all_goals conv=>whnf
 ·have B:i < M.aq.length:=by omega
  obtain⟨aas,wf,ws,J,_,k2,_⟩:=id S;simp only[aR,List.cons.injEq,and_true]at J;obtain⟨rfl,rfl,rfl,_⟩:=J;obtain⟨ad,off,xs,hp,r1,X⟩:=k2.get B;have H:=y.jX _ (List.getElem_mem B);have w:=c.fit.aq i B;have E:=aaF _ u M.aq[i].aG d C z H.1 R;have EB:=w.ok;rw[EB]at E;have aa5:=w.cA.1;have V:=w.top;have OM:=w.pc;have hp0:=H.2.1.1;have K:∀ D:M.aq[i].pc.toNat < (bK u (bz u M.aq[i].aG)).1.length,fm u M.aq[i]=(bK u (bz u M.aq[i].aG)).1[M.aq[i].pc.toNat]'D:=λD=>by unfold fm;exact cI D
  generalize M.aq[i]=f at X H E aa5 V OM hp0 K;obtain⟨w1,w2,rfl,e1,e2⟩:=X;obtain⟨pl,cl,rfl,_,_⟩:=e1.len;obtain⟨pk,ck,rfl,_,LD⟩:=e2.len;refine ay ?_;conv=>whnf
  refine aL hp ?_;conv=>whnf
  refine dZ r1 ?_;conv=>whnf
  refine aB E (λv4 x A=>?_);obtain⟨v,sl,rfl,p⟩:=A;have p:=p rfl;obtain⟨aap,m,rfl,_,hSl⟩:=p.len;obtain⟨aag,aao,zs,T,aaq,Y⟩:=p.get (i:=f.pc.toNat) O;rw[<-K O]at Y;obtain⟨y1,y2,rfl,s1,s2⟩:=Y;obtain⟨py2,cy2,rfl,_,hyl⟩:=s2.len;have rk:=aJ aaq (i:=2) rfl;conv=>whnf
  have a:decide (((bK u (bz u f.aG)).1.length:Int)<=f.pc)=false:=decide_eq_false O;generalize decide (((bK u (bz u f.aG)).1.length:Int)<=f.pc)=n at a ⊢;subst a;conv=>whnf
  refine ay ?_;conv=>whnf
  refine aL T ?_;conv=>whnf
  refine ld rk ?_;conv=>whnf
  have a:decide (((fm u f).stack.length:Int) < f.stack.length)=false:=decide_eq_false O;generalize decide (((fm u f).stack.length:Int) < f.stack.length)=n at a ⊢;subst a;conv=>whnf
  refine av ?_;conv=>whnf
  by_cases L:(i:Int)=(M.aq.length:Int)-1
  ·have a:decide ((i:Int)=(M.aq.length:Int)-1)=true:=decide_eq_true L;generalize decide ((i:Int)=(M.aq.length:Int)-1)=n at a ⊢;subst a;conv=>whnf
   refine ay ?_;conv=>whnf
   refine aL T ?_;conv=>whnf
   refine ld rk ?_;conv=>whnf
   have a:decide ((f.stack.length:Int)=(fm u f).stack.length)=true:=decide_eq_true (by have:=V O;omega);generalize decide ((f.stack.length:Int)=(fm u f).stack.length)=n at a ⊢;subst a;conv=>whnf
   refine av ?_;conv=>whnf
   exact cL (i+1,x) ⟨by simp only;omega,Heap.le_trans b v⟩ (by simp only;omega) rfl
  have a:decide ((i:Int)=(M.aq.length:Int)-1)=false:=decide_eq_false L;generalize decide ((i:Int)=(M.aq.length:Int)-1)=n at a ⊢;subst a;conv=>whnf
  refine av ?_;conv=>whnf
  exact cL (i+1,x) ⟨by simp only;omega,Heap.le_trans b v⟩ (by simp only;omega) rfl
 refine j6 (aaX _ _ u M d C S) (λI=>?_) (λI=>?_);all_goals conv=>whnf
 rotate_left
 ·exact absurd ⟨z,y⟩ I
 refine aB (aaM _ u d C z R) (λG x A=>?_);obtain⟨v,rfl⟩:=A;rw[eg c.fit.pass];conv=>whnf
 exact⟨rfl,Heap.le_trans r (Heap.le_trans t v)⟩
end Go.Proofs
