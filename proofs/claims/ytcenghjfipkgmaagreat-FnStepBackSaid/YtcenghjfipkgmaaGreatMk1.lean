/- Lemmas. -/
import Derived.Calls
import Derived.KernelRfl
import Derived.Laws.Sem
import Derived.Deep.Quiet
import Derived.Scope
import Derived.Orders
import Derived.Below
import Derived.Laws.StructEq
import Derived.Laws.Cover3
import Derived.Defers
import Derived.Recover
import Derived.Test.YtcenghjfipkgmaaGreatProg
import Derived.Test.YtcenghjfipkgmaaGreatMb11
set_option linter.unusedSimpArgs false
set_option linter.unusedVariables false
namespace Go.Vc
set_option linter.constructorNameAsVariable false
set_option linter.unusedSimpArgs false
set_option linter.unusedVariables false
section
variable {P:Program} {S:oD} (hS:dQ P S)
include hS
end
variable {D:List Deferred} {n:Nat} {h0:Heap} {w0:World} {β:Nat->Nat} {e:Env} {h:Heap} {a:Act} {w:World}
variable {P:Program} {S:oD} {o:Oper} {K:Slot->Bx->Heap->Prop} {E:List PanicEntry->Heap->Prop}
set_option linter.constructorNameAsVariable false
set_option linter.unusedVariables false
variable {D:List Deferred} {P:Program} {S:oD} {n:Nat} {h0:Heap} {w0:World} {β:Nat->Nat} {e:Env} {h:Heap} {a:Act} {w:World}
set_option linter.unusedSimpArgs false
variable {D:List Deferred} {P:Program} {S:oD} {F:Fs} {o:Oper} {e:Env} {h:Heap} {K:Slot->Bx->Heap->Prop} {E:List PanicEntry->Heap->Prop}
open Go.RowKit
variable {P:Program} {f:FuncId} {args:List Value} {h:Heap} {K:Value->Heap->Prop} {E:List PanicEntry->Heap->Prop} {R:Value->Heap->Prop} {w:World}
variable {P:Program} {h:Heap} {e:Env} {Kr:Value->Heap->Prop} {dst:Option Nat} {ty t kt et:TypeId} {pos:String} {af:Array Edge} {g:Option (Nat × Bool)} {m k x:Operand} {b:Nat} {n:Int} {l:List (Int × Value)} {v:Value}
variable {P:Program}
variable {h:Heap} {e:Env} {dst:Option Nat} {t u ty:TypeId} {x y:Operand} {pos:String} {af:Array Edge} {g:Option (Nat × Bool)}
variable {P:Program} {S:oD} {h:Heap} {e:Env} {dst:Option Nat} {t u el ty:TypeId} {x y:Operand} {pos:String} {af:Array Edge} {g:Option (Nat × Bool)}
end Go.Vc
namespace Go.Proofs
open Go.Vc Go.Proofs.Tryz
def Tryz.ac2:Fs:={L:=[3,4,5,6,7,9,11,12,107],LL:=[31,32,33,43,46,47,48,86,93,95,101,104,106,113,115],cq:=[(6,[0,1,2,3,4,5,6,7,8,9,10,11,12,13,14]),(7,[0,1,2,3,4,5]),(14,[0,3,4,1,2,5,6,7,9,8,10,11,12,13,14,15,18,16,19,21,22,17,20,23,24,25,26,27,29,28,30,31,32,33])]}
theorem Tryz.ok5:aL ac2 Tryz.f5 1=true:=by kernel_rfl
set_option maxRecDepth 100000
set_option maxHeartbeats 4000000
set_option maxHeartbeats 40000000
instance (x:Sx):Decidable x.bad:=inferInstanceAs (Decidable (_\/_))
variable {α:Type} {sz:Nat} {R:Heap->List Value->α->Prop} {h0 h h':Heap} {b c:Nat} {A:List α}
section
variable {gB g g':Heap} {l1 l2:List Int} {p1 p2:Option Addr} {c1 c2:Nat} {B1 B2:List Nat} {bb:Nat} {vb:Value} {q0 q:Int}
end
open Go.Vc Go.Proofs.Tryz
set_option maxRecDepth 100000
set_option maxHeartbeats 4000000
section
variable {gB g g':Heap} {code:List ez} {pc:Option Addr} {cc:Nat} {Bc:List Nat} {el:List Int} {pe:Option Addr} {ce:Nat} {Be:List Nat} {ks:List nK} {kv:Value} {Bk:List Nat}
end
open Go.Vc Go.Proofs.Tryz
set_option maxRecDepth 100000
set_option maxHeartbeats 4000000
section
variable {g0 g g1:Heap} {cp:Option Addr} {cc:Nat} {cs:List eD} {bm cm:Nat} {aS:List (List Value)} {A:List cL} {k bb:Nat} {vb:Value} {q0 q:Int} {K:Heap->Prop}
end
open Go.Vc Go.Proofs.Tryz
set_option maxRecDepth 100000
set_option maxHeartbeats 4000000
section
variable {g2 g3:Heap} {bb:Nat} {R:bM} {po pf pw:Option Addr} {co cf cw:Nat} {B1 B2 B3:List Nat}
end
open Go.Vc Go.Proofs.Tryz
set_option maxRecDepth 100000
set_option maxHeartbeats 4000000
section
variable {h:Heap} {bu bm b5 b6:Nat} {p q po pf ps:Option Addr} {cc d co cf cs:Nat} {u:aO} {M:bM}
end
open Go.Vc Go.Proofs.Tryz
set_option maxRecDepth 100000
set_option maxHeartbeats 4000000
section
variable {u u':aO}
end
open Go.Vc Go.Proofs.Tryz
set_option maxRecDepth 100000
set_option maxHeartbeats 4000000
section
variable {u u':aO}
end
open Go.Vc Go.Proofs.Tryz
set_option maxRecDepth 100000
set_option maxHeartbeats 4000000
theorem aeh {h:Heap} {b:Nat}:∀ {n off m:Nat} {xs ys:List Value},fj h b off n=some xs->fj h b (off+n) m=some ys->fj h b off (n+m)=some (xs++ys)
 | 0,off,m,xs,ys,h1,h2=>by
  simp only[fj,v_]at h1;subst h1;simpa using h2
 | n+1,off,m,xs,ys,h1,h2=>by
  obtain⟨y,e1,⟨r,e2,rfl⟩⟩:∃ y,rd h b off=some y/\∃ r,fj h b (off+1) n=some r/\xs=y::r:=by
   simp only[fj]at h1;split at h1
   ·rename_i y r k1 k2;simp only[v_]at h1;exact⟨y,k1,r,k2,h1.symm⟩
   ·cases h1
  have:=aeh e2 (m:=m) (ys:=ys) (by rw[show off+1+n=off+(n+1)by omega];exact h2);rw[show n+1+m=(n+m)+1 by omega];simp only[fj,e1,this,List.cons_append]
theorem aef {α:Type} {sz:Nat} {R:Heap->List Value->α->Prop} {h:Heap} {b:Nat}:∀ {l:List α} {off:Nat},(∀ i x,l[i]? = some x->∃ vs,fj h b (off+i*sz) sz=some vs/\R h vs x) ->
  ∃ xs:List (List Value),fj h b off (l.length*sz)=some xs.flatten/\xs.length=l.length/\∀ i (h1:i < xs.length) (h2:i < l.length),R h xs[i] l[i]/\xs[i].length=sz
 | [],off,_=>⟨[],by simp[fj],rfl,λi h1=>by simp at h1⟩
 | a::l,off,hx=>by
  obtain⟨v,e1,r1⟩:=hx 0 a rfl;obtain⟨xs,e2,hl,hr⟩:=aef (l:=l) (off:=off+sz) (λi x hi=>by
   obtain⟨vs,k1,k2⟩:=hx (i+1) x (by simpa using hi);exact⟨vs,by rw[show off+sz+i*sz=off+(i+1)*sz by rw[Nat.add_mul];omega];exact k1,k2⟩)
  refine⟨v::xs,?_,by simp[hl],λi h1 h2=>?_⟩
  ·have:=aeh (by simpa using e1) e2;rw[show(a::l).length*sz=sz+l.length*sz by simp[Nat.add_mul];omega];simpa using this
  ·cases i with
   | zero=>exact⟨r1,Cl e1⟩
   | succ i=>exact hr i (by simpa using h1) (by simpa using h2)
theorem aem {α:Type} {sz:Nat} {R:Heap->List Value->α->Prop} {h h1:Heap} {p:Option Addr} {n c:Nat} {l:List α} {K:List Value->Prop} (hr:Row sz R h (.slice p n c) l) (hl:h.le h1)
  (hk:∀ xs:List (List Value),xs.length=l.length->(∀ i (h1:i < xs.length) (h2:i < l.length),R h xs[i] l[i]/\xs[i].length=sz)->K xs.flatten):Ua h1 p (n*sz) K:=by
 obtain⟨_,p',c',e,_,h3⟩:=hr;simp only[Z_]at e;obtain⟨rfl,rfl,rfl⟩:=e;rw[uH];unfold Fz;rcases h3 with rfl|⟨b,off,rfl,hx⟩
 ·exact .inl ⟨.inr (by simp),hk [] rfl λi h1=>by simp at h1⟩
 ·obtain⟨xs,e1,e2,e3⟩:=aef hx;exact .inr ⟨b,off,_,rfl,bK hl e1,hk xs e2 e3⟩
theorem aej {u:aO} {M R:bM} {us mc xc:List Value} {h0 h2:Heap} {K:Value->Heap->Prop} {E:List PanicEntry->Heap->Prop} (hu:dG h0 us u) (hM:wI h0 mc M) (hQ:xg h0 mc M) (l:h0.le h2) (EF:z5 u M R) (oq:∀ h3,h2.le h3->xg h3 xc R) (hK:∀ x h3,h2.le h3->Pure prog 13 [.agg ⟨xc⟩,.agg ⟨x⟩] h3 (.bool true)->K (.agg ⟨x⟩) h3):iF prog 14 [.agg ⟨us⟩,.agg ⟨mc⟩] h2 K E :=
 cX (Rt _ _ u M h2 (hu.le l) (hM.le l) (hQ.le l) R EF) λv h3 hh=>by
  obtain⟨l3,ad2,B3,rfl,o3,n3,f3⟩:=hh;exact⟨l3,hK _ _ l3 (aaB _ _ R h3 (oq h3 l3) (o3.adz EF.ads))⟩
theorem aeg {cs:List eD} (ok:cI cs) {a b c:Int} (ha:a < 8+cs.length) (h1:iy cs a b=true) (h2:iy cs b c=true):iy cs a c=true:=by
 by_cases Qt:a=b
 ·subst Qt;exact h2
 by_cases hbc:b=c
 ·subst hbc;exact h1
 by_cases hc:a=c\/c=0
 ·unfold iy;rw[if_pos hc]
 unfold iy at h1 h2 ⊢;rw[if_neg (by omega)]at h2;split at h2
 ·rw[if_neg (by omega)]at h1;split at h1
  ·omega
  ·rw[if_pos (by omega)]at h1;cases h1
 split at h2
 ·cases h2
 split at h2
 ·have h2:c=8:=of_decide_eq_true h2;rw[if_neg (by omega)]at h1;split at h1
  ·rw[if_neg (by omega),if_pos (by assumption)];exact decide_eq_true (by omega)
  ·rw[if_pos (by omega)]at h1;cases h1
 ·rw[if_neg (by omega)]at h1;split at h1
  ·rw[if_neg (by omega),if_pos (by assumption)];exact decide_eq_true (by omega)
  split at h1
  ·cases h1
  split at h1
  ·have h1:b=8:=of_decide_eq_true h1;rw[FZ ok _ (Nat.lt_succ_self _) (by have:=ok.1;omega) (by omega)]at h2;cases h2
  ·rw[if_neg (by omega),if_neg (by omega),if_neg (by omega),if_neg (by omega)];exact Ei ok _ (Nat.lt_succ_self _) (by omega) h1 h2
def vin (u:aO) (M:bM) (v:Vl) (t:Int):Prop:=kE M.objs.length v/\iy u.J (Iv M.objs v) t=true
theorem aed {cs:List eD}:∀ {l r:List Int},l.length=r.length->jn cs l r=true->∀ i (h1:i < l.length) (h2:i < r.length),iy cs l[i] r[i]=true
 | [],[],_,_,i,h1,_=>by simp at h1
 | a::l,b::r,hl,h,i,h1,h2=>by
  rw[jn,Bool.and_eq_true]at h;cases i with
  | zero=>exact h.1
  | succ i=>exact aed (by simpa using hl) h.2 i (by simpa using h1) (by simpa using h2)
theorem tC.pop {u:aO} {M:bM} {f:bQ} (t:tC u M f) {types:List Int} {r:dY} (h:iA u.J (z9 u f) types=some r):∃ rest aR,f.stack=rest++aR/\aR.length=types.length/\r.stack.length=rest.length/\∀ i (h1:i < aR.length) (h2:i < types.length),vin u M aR[i] types[i]:=by
 obtain⟨_,hl,ha,_⟩:=t.step;unfold iA at h;split at h
 ·rename_i hp;simp only[v_]at h;unfold vI at hp;simp only[Bool.and_eq_true,decide_eq_true_eq]at hp;obtain⟨xK,CM⟩:=hp;refine⟨f.stack.take (f.stack.length-types.length),f.stack.drop (f.stack.length-types.length),(List.take_append_drop _ _).symm,by simp;omega,by rw[<-h];simp;omega,λi h1 h2=>?_⟩;have F3:f.stack.length-types.length+i < f.stack.length:=by simp at h1;omega
  have hg:=aed (by simp;omega) CM i (by simp;omega) h2;simp only[List.getElem_drop]at hg ⊢;have hw:=t.frW.2.2.2.2.2 _ (x_ F3);refine⟨hw,aeg t.fit.unit.1 (Nr t.fit.unit t.fit.ok hw).2 (ha.2 _ F3 (by omega)) ?_⟩;simp only[hl];exact hg
 ·cases h
theorem tC.aeo {u:aO} {M:bM} {f:bQ} (t:tC u M f) {a:Int} {r:dY} (h:iA u.J (z9 u f) [a]=some r):∃ rest x,f.stack=rest++[x]/\r.stack.length=rest.length/\vin u M x a:=by
 obtain⟨rest,aR,h1,h2,h3,h4⟩:=t.pop h;obtain⟨x,rfl⟩:=gu (by simpa using h2);exact⟨rest,x,h1,h3,h4 0 (by simp) (by simp)⟩
theorem aec {r:Option dY} {t:Int} {s:dY} (h:jo r t=some s):∃ q,r=some q/\q.stack.length < 4:=by
 cases r with
 | none=>cases h
 | some q =>
  refine⟨q,rfl,?_⟩;unfold jo at h;simp only at h;split at h
  ·cases h
  ·omega
theorem aei {cs:List eD} {s r:dY} {types:List Int} (h:iA cs s types=some r):types.length<=s.stack.length/\r.stack.length=s.stack.length-types.length/\r.locals=s.locals:=by
 unfold iA at h;split at h
 ·rename_i hp;simp only[v_]at h;unfold vI at hp;simp only[Bool.and_eq_true,decide_eq_true_eq]at hp;subst h;exact⟨hp.1,by simp,rfl⟩
 ·cases h
theorem FrT.step {u:aO} {M:bM} {i n:Nat} {f:bQ} (q:FrT u M i f) (w:xH u n f):f.pc < (aV u f.U).code.length/\∃ nx,stepT u (aV u f.U) (hY u f) (z9 u f)=some nx:=by
 obtain⟨_,a2,a3⟩:=Ab _ 0 _ _ _ rfl q.ok;have AW:=q.pc;have a2':(ey u (aV u f.U)).1.length=0+(aV u f.U).code.length:=a2;have h0:=w.2.1.1;obtain⟨s,nx,e1,e2⟩:=a3 f.pc.toNat (by omega) (by omega);have Dh:(ey u (aV u f.U)).1[f.pc.toNat]? = some s:=e1;have es:z9 u f=s:=by unfold z9;rw[S_,Dh];rfl
 refine⟨by omega,nx,?_⟩;rw[es];rw[show((f.pc.toNat:Nat):Int)=f.pc by omega]at e2;exact e2
theorem FrT.room {u:aO} {M:bM} {i n:Nat} {f:bQ} (q:FrT u M i f) (w:xH u n f) (hi:i+1 < M.ag.length):f.stack.length < 4:=by
 obtain⟨h1,h2⟩:=q.low hi;obtain⟨_,nx,hs⟩:=q.step w;have hk:=Hh h1;have hc:zB u (hY u f) (z9 u f)=some nx:=by
  unfold stepT at hs;rw[if_neg (by omega),if_pos (by omega)]at hs;exact hs
 unfold zB at hc;unfold bP at h1 h2;rcases hk with k|⟨k,kf⟩
 ·simp only[k,show ¬(20:Int)=21 by omega,if_false,if_true,List.nil_append]at hc h1 h2;split at hc
  ·cases hc
  obtain⟨r,hr,h4⟩:=aec hc;obtain⟨l1,l2,_⟩:=aei hr;omega
 ·simp only[k,show ¬(21:Int)=20 by omega,if_false,if_true,kf]at hc h1 h2;rw[if_neg (by omega)]at hc;obtain⟨r,hr,h4⟩:=aec hc;obtain⟨l1,l2,_⟩:=aei hr;simp only[U_,List.length_singleton]at l1 l2;omega
theorem tC.back {u:aO} {M:bM} {f:bQ} (t:tC u M f) (hk:(hY u f).kind=22):∃ rest v,f.stack=rest++[v] /\
  ((M.ag.dropLast=[]/\fB u M = {M with ag:=[],fin:=1,out:=v,steps:=M.steps+1})\/∃ gs g,M.ag.dropLast=gs++[g]/\fB u M = {M with ag:=gs++[{g with stack:=g.stack++[v],pc:=g.pc+1}],steps:=M.steps+1}):=by
 obtain⟨AW,hl,ha,nx,hs⟩:=t.step;obtain⟨rest,v,h1,h2,h3⟩:=t.aeo (a:=(aV u f.U).out) (r:=nx) (by unfold stepT at hs;simpa [hk]using hs);have ht:ee u (hY u f) f.stack=some ([v],rest):=by
  rw[h1,rM (w:=0) (by unfold di;simp[hk])];simp[jD]
 have hd:=t.do_ ht;rw[if_pos (by omega)]at hd;have hc:∀ X:bM,gW u (hY u f) [v] M.ag.dropLast X=rE v M.ag.dropLast X:=λX=>by
  unfold gW;simp[hk]
 rw[hc]at hd;refine⟨rest,v,h1,?_⟩;cases hg:M.ag.dropLast.getLast? with
 | none =>
  have he:M.ag.dropLast=[]:=List.getLast?_eq_none_iff.1 hg;refine .inl ⟨he,?_⟩;rw[t.eq,hd,he,AV]
 | some g =>
  obtain⟨gs,he⟩:=List.getLast?_eq_some_iff.1 hg;have gz:=t.ag;have Af:M.ag=gs++g::[f]:=by rw[gz,he];simp
  have hlen:M.ag.length=gs.length+2:=by rw[Af];simp
  have mT:M.ag[gs.length]'(by omega)=g:=by
   simp only[Af];simp
  have hq:=t.fit.ag gs.length (by omega);rw[mT]at hq;have hw:=t.fit.ok.iN g (by rw[<-mT];exact x_ _);have hr:=hq.room hw (by omega);refine .inr ⟨gs,g,he,?_⟩;rw[t.eq,hd,he,sJ,if_pos hr]
theorem aen {h h1:Heap} {p:Option Addr} {n c:Nat} {l:List Vl} {K:List Value->Prop} (hr:Row 2 G7 h (.slice p n c) l) (hl:h.le h1) (hk:K (l.map bR).flatten):Ua h1 p (n*2) K :=
 aem hr hl λxs h1 h2=>by
  have:xs=l.map bR:=List.ext_getElem (by simp[h1]) λi h3 h4=>by
   have:=(h2 i h3 (by simpa using h4)).1;rw[this];simp[bR]
  rw[this];exact hk
theorem aek {el:TypeId} {h0 h:Heap} {p:Option Addr} {n c:Nat} {l:List Vl} {B:List Nat} {v:Vl} {K:Value->Heap->Prop} (o:cj h (.slice p n c) l B) (hB:∀ b∈B,h0 b=none) (hl:h0.le h) (hs:l.length<=1000000)
  (hk:∀ p' c' h',h0.le h'->Row 2 G7 h' (.slice p' (l++[v]).length c') (l++[v])->K (.slice p' (l++[v]).length c') h'):App 16 2 [.bool false,.int .i64 0] el h p n c 1 [.bool v.ref,.int .i64 v.n] K:=by
 refine dA (h0:=h0) (xs:=l.map bR) (ys:=[bR v]) o hB hl rfl rfl (by simp[bR]) rfl rfl (by simp;omega) (by simp;omega) (λv9' h9 B9 l9 ad3 _ _ _=>?_);have o9':cj h9 v9' (l++[v]) B9:=by
  unfold cj;rw[List.map_append];exact ad3
 have r:=xh o9' (by simp;omega);obtain⟨p9,c9,rfl,_⟩:=r.len;exact hk _ _ _ l9 r
theorem ael {α:Type} {l k:List α} {x:α} (h:l=k++[x]) (h1:k.length < l.length):l[k.length]=x:=by
 subst h;simp
theorem aee (v:Value) (n:Nat) (h:Heap) (hB:Bytes h v n) (hn:n<=140737488355328) (hy:TG h):Pure prog 5 [v] h (.bool true):=by
 have hB0:=hB;obtain⟨p,c,rfl,hc,_⟩:=hB;refine jh au func5 ac2 ok5 rfl ?_;conv=>whnf
 apply ax<;>intro g;all_goals conv=>whnf
 ·exact⟨rfl,z_ h⟩
 refine aC (M9 _ n h hB0 (by omega) hy) ?_;rintro v0 h0 ⟨l0,hA⟩;refine UF.elim hA λpc n1 cc pm n2 cm u po co pf cf pw cw M B0 hv hu o0 sm=>?_;subst hv;have hM0:=o0.read sm.small;have hQ0:=o0.adz sm.small.ads;obtain⟨R,EF⟩:=UN u M;have ti:=EF.ads;unfold nI ay at o0 hM0 hQ0 ⊢;conv=>whnf
 refine aC (Rr _ _ u M h0 hu hM0 hQ0 R EF) ?_;rintro v1 h1 ⟨l1,m1,B1,rfl,o1,n1,f1⟩;obtain⟨ad5,do_,ad4,df,ad6,adZ,rfl⟩:=o1.nI;unfold nI ay at o1 ⊢;conv=>whnf
 refine aC (aaH _ _ u M h1 (hu.le l1) (hQ0.le l1)) ?_;rintro v2 h2 ⟨l2,hT⟩;have HL:=y_ l1 l2;rcases hT with rfl|⟨f,p1,c1,p2,c2,tp,rfl,y1,y2⟩;all_goals conv=>whnf
 all_goals refine aej hu hM0 hQ0 HL EF (λh3 l3=>(o1.aJ (cR.of_le (y_ l2 l3) _)).adz ti) (λx h3 l3 ad1=>?_)
 all_goals conv=>whnf
 all_goals refine aK ad1 ?_
 all_goals conv=>whnf
 all_goals have l13:=y_ HL l3
 all_goals have l03:=y_ l0 l13
 ·skip
  refine aej hu hM0 hQ0 l13 EF (λh4 l4=>(o1.aJ (cR.of_le (y_ (y_ l2 l3) l4) _)).adz ti) (λx h4 l4 ad1=>?_);conv=>whnf
  refine aK ad1 ?_;conv=>whnf
  exact⟨rfl,y_ l0 (y_ l13 l4)⟩
 have oq:=(o1.aJ (cR.of_le (y_ l2 l3) _)).adz ti;have hRs:=EF.1 ⟨tp.fit.unit,tp.fit.ok⟩;have hlen:=tp.fit.ok.len;have Eh:=tp.fit.ok.nf;have hnk:=tp.frW.2.2.2.1;have y1:=y1.le l3 λ_ _ hx=>hx;have y2:=y2.le l3 λ_ _ hx=>hx;apply aT<;>intro g1;all_goals conv=>whnf
 ·skip
  refine aej hu hM0 hQ0 l13 EF (λh4 l4=>(o1.aJ (cR.of_le (y_ (y_ l2 l3) l4) _)).adz ti) (λx h4 l4 ad1=>?_);conv=>whnf
  refine aK ad1 ?_;conv=>whnf
  exact⟨rfl,y_ l0 (y_ l13 l4)⟩
 obtain⟨rest,v,e1,e3⟩:=tp.back g1;rw[<-hRs]at e3;have gz:=tp.ag;rw[e1]at y2 ⊢;have hl2:(rest++[v]).length=rest.length+1:=by simp
 obtain⟨b1,of1,xs,s9,r1,a1⟩:=y2.get (i:=rest.length) (by simp);rw[show(rest++[v])[rest.length]'(by simp)=v by simp]at a1;subst a1;rw[hl2];have hz1:(((rest.length+1:Nat):Int)-1).toNat=rest.length:=by omega
 obtain⟨vo,vf,vs,ad0,x1,x2,x3⟩:=oq;simp only[ay,List.cons.injEq,and_true]at ad0;obtain⟨rfl,rfl,rfl⟩:=ad0;obtain⟨vo,vf,vs,ad0,w1,w2,w3⟩:=hQ0.le l13;simp only[ay,List.cons.injEq,and_true]at ad0;obtain⟨rfl,rfl,rfl⟩:=ad0;have ur:rest.length<=4:=by rw[e1]at hnk;simp at hnk;omega
 rcases e3 with ⟨e2,e3⟩|⟨gs,g,e2,e3⟩
 ·have AX:M.ag.length=1:=by rw[gz,e2];rfl
  have IA:R.fin=1:=by rw[e3]
  have ho:R.out=v:=by rw[e3]
  have hv:∀ w,(Go.binOp .eql 31 (.agg #[.bool R.out.ref,.int .i64 R.out.n]) (.agg #[.bool v.ref,.int .i64 v.n])).run prog w=.ok (.bool true) w:=λw=>by
   have:=Na R.out v w;rw[ho]at this ⊢;simpa using this
  repeat' ((first|refine ah ?_|refine aq ?_|refine aG s9 ?_|refine dJ (by rw[hz1];exact r1) ?_|refine cx ?_|apply And.intro|exact trivial)<;>conv=>whnf)
  refine iI rfl rfl (λw=>by simp[eqGuard]) (λw=>hv w) ?_;conv=>whnf
  exact⟨rfl,l03⟩
 ·have Af:M.ag=gs++g::[f]:=by rw[gz,e2];simp
  have e4:R.ag=gs++[{g with stack:=g.stack++[v],pc:=g.pc+1}]:=by rw[e3]
  have hRl:R.ag.length=gs.length+1:=by rw[e4];simp
  have hRb:=ti.ag;unfold BH at hRb;obtain⟨b4,of4,vs4,hq4,r4,a4⟩:=x2.get (i:=gs.length) (by omega);rw[ael e4 (by omega)]at a4;obtain⟨v6,v7,rfl,y4,ad9⟩:=a4;try simp only at y4 ad9
  obtain⟨pl4,cl4,rfl,_,_⟩:=y4.len;try simp only at r4
  have hkz:((R.ag.length:Int)-1).toNat=gs.length:=by omega
  obtain⟨pg,cg,rfl,_,_⟩:=ad9.len;have hMl:M.ag.length=gs.length+2:=by rw[Af];simp
  obtain⟨b6,of6,vs6,hq6,r6,a6⟩:=w2.get (i:=gs.length) (by omega);have hgg:M.ag[gs.length]'(by omega)=g:=by simp only[Af];simp
  have hFg:=tp.fit.ok.iN g (by rw[<-hgg];exact x_ _);rw[hgg]at a6;obtain⟨ad7,ad8,rfl,aea,aeb⟩:=a6;obtain⟨pl8,cl8,rfl,_,_⟩:=aea.len;obtain⟨pk9,ck9,rfl,_,_⟩:=aeb.len;have hz6:((M.ag.length:Int)-2).toNat=gs.length:=by omega
  have AW:=hFg.2.1;have lI:=(tp.fit.unit.aV hFg.1).2.1.2.1;have I8:=hFg.2.2.2.1;repeat' ((first|refine ah ?_|refine aq ?_|refine aG s9 ?_|refine dJ (by rw[hz1];exact r1) ?_|refine bH ?_|apply And.intro|exact trivial)<;>conv=>whnf)
  repeat' ((first|refine ah ?_|refine aq ?_|refine aG hq4 ?_|refine dJ (by rw[hz6];exact r4) ?_|refine cx ?_|apply And.intro|exact trivial)<;>conv=>whnf)
  repeat' ((first|refine ah ?_|refine aq ?_|refine aG hq6 ?_|refine dJ (by rw[hz6];exact r6) ?_|refine cx ?_|apply And.intro|exact trivial)<;>conv=>whnf)
  refine ec [] rfl (λb h4 hb e l4 g4=>?_);conv=>whnf
  refine aen aeb l4 ?_;conv=>whnf
  refine zl l4 g4 hb rfl (by simp) (by simp;omega) (λp8 c8 h8 B8 l8 o8 n8=>?_);conv=>whnf
  refine aek (h0:=h3) (l:=g.stack) (v:=v) o8 n8 l8 (by omega) (λp9 c9 h9 l9 ad3=>?_);conv=>whnf
  refine aK (vZ _ _ (g.stack++[v]) h9 (ad9.le l9 λ_ _ hx=>hx) ad3) ?_;conv=>whnf
  refine aK (vZ _ _ g.locals h9 (y4.le l9 λ_ _ hx=>hx) (aea.le l9 λ_ _ hx=>hx)) ?_;conv=>whnf
  exact⟨rfl,y_ l03 l9⟩
theorem FnStepBack_c (v:Value) (n:Nat) (h:Heap) (hB:Bytes h v n) (hn:n<=140737488355328):Pure prog 5 [v] h (.bool true):=by
 obtain⟨hs,hl,hb,hy⟩:=Rn hB;exact aaC hl (aee v n hs hb hn hy)
end Go.Proofs
