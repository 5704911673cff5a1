/- Lemmas. -/
import Derived.Calls
import Derived.KernelRfl
import Derived.Laws.Sem
import Derived.Deep.Quiet
import Derived.Scope
import Derived.Orders
import Derived.Below
import Derived.Laws.StructEq
import Derived.Laws.Cover3
import Derived.Defers
import Derived.Recover
import Derived.Test.YtcenghjfipkgmaaGreatProg
import Derived.Test.YtcenghjfipkgmaaGreatMb11
set_option linter.unusedSimpArgs false
set_option linter.unusedVariables false
namespace Go.Vc
set_option linter.constructorNameAsVariable false
set_option linter.unusedSimpArgs false
set_option linter.unusedVariables false
section
variable {P:Program} {S:oD} (hS:dQ P S)
include hS
end
variable {D:List Deferred} {n:Nat} {h0:Heap} {w0:World} {β:Nat->Nat} {e:Env} {h:Heap} {a:Act} {w:World}
variable {P:Program} {S:oD} {o:Oper} {K:Slot->Bx->Heap->Prop} {E:List PanicEntry->Heap->Prop}
set_option linter.constructorNameAsVariable false
set_option linter.unusedVariables false
variable {D:List Deferred} {P:Program} {S:oD} {n:Nat} {h0:Heap} {w0:World} {β:Nat->Nat} {e:Env} {h:Heap} {a:Act} {w:World}
set_option linter.unusedSimpArgs false
variable {D:List Deferred} {P:Program} {S:oD} {F:Fs} {o:Oper} {e:Env} {h:Heap} {K:Slot->Bx->Heap->Prop} {E:List PanicEntry->Heap->Prop}
open Go.RowKit
variable {P:Program} {f:FuncId} {args:List Value} {h:Heap} {K:Value->Heap->Prop} {E:List PanicEntry->Heap->Prop} {R:Value->Heap->Prop} {w:World}
variable {P:Program} {h:Heap} {e:Env} {Kr:Value->Heap->Prop} {dst:Option Nat} {ty t kt et:TypeId} {pos:String} {af:Array Edge} {g:Option (Nat × Bool)} {m k x:Operand} {b:Nat} {n:Int} {l:List (Int × Value)} {v:Value}
variable {P:Program}
variable {h:Heap} {e:Env} {dst:Option Nat} {t u ty:TypeId} {x y:Operand} {pos:String} {af:Array Edge} {g:Option (Nat × Bool)}
variable {P:Program} {S:oD} {h:Heap} {e:Env} {dst:Option Nat} {t u el ty:TypeId} {x y:Operand} {pos:String} {af:Array Edge} {g:Option (Nat × Bool)}
end Go.Vc
namespace Go.Proofs
open Go.Vc Go.Proofs.Tryz
def Tryz.ac2:Fs:={L:=[3,4,5,6,7,12,13],LL:=[32,33,34,44,47,48,49,57,59,66],cq:=[(6,[0,1,2,3,4,5,6,7,8,9,10,11,12,13,14]),(7,[0,1,2,3,4,5]),(9,[0,2,4,5,9,11,12,1,3,6,7,10,13,14,8,15,16,17,18,19,20,21])]}
theorem Tryz.ok4:aL ac2 Tryz.f4 1=true:=by kernel_rfl
set_option maxRecDepth 100000
set_option maxHeartbeats 4000000
set_option maxHeartbeats 40000000
instance (x:Sx):Decidable x.bad:=inferInstanceAs (Decidable (_\/_))
variable {α:Type} {sz:Nat} {R:Heap->List Value->α->Prop} {h0 h h':Heap} {b c:Nat} {A:List α}
section
variable {gB g g':Heap} {l1 l2:List Int} {p1 p2:Option Addr} {c1 c2:Nat} {B1 B2:List Nat} {bb:Nat} {vb:Value} {q0 q:Int}
end
open Go.Vc Go.Proofs.Tryz
set_option maxRecDepth 100000
set_option maxHeartbeats 4000000
section
variable {gB g g':Heap} {code:List ez} {pc:Option Addr} {cc:Nat} {Bc:List Nat} {el:List Int} {pe:Option Addr} {ce:Nat} {Be:List Nat} {ks:List nK} {kv:Value} {Bk:List Nat}
end
open Go.Vc Go.Proofs.Tryz
set_option maxRecDepth 100000
set_option maxHeartbeats 4000000
section
variable {g0 g g1:Heap} {cp:Option Addr} {cc:Nat} {cs:List eD} {bm cm:Nat} {aS:List (List Value)} {A:List cL} {k bb:Nat} {vb:Value} {q0 q:Int} {K:Heap->Prop}
end
open Go.Vc Go.Proofs.Tryz
set_option maxRecDepth 100000
set_option maxHeartbeats 4000000
section
variable {g2 g3:Heap} {bb:Nat} {R:bM} {po pf pw:Option Addr} {co cf cw:Nat} {B1 B2 B3:List Nat}
end
open Go.Vc Go.Proofs.Tryz
set_option maxRecDepth 100000
set_option maxHeartbeats 4000000
section
variable {h:Heap} {bu bm b5 b6:Nat} {p q po pf ps:Option Addr} {cc d co cf cs:Nat} {u:aO} {M:bM}
end
open Go.Vc Go.Proofs.Tryz
set_option maxRecDepth 100000
set_option maxHeartbeats 4000000
section
variable {u u':aO}
end
open Go.Vc Go.Proofs.Tryz
set_option maxRecDepth 100000
set_option maxHeartbeats 4000000
section
variable {u u':aO}
end
open Go.Vc Go.Proofs.Tryz
set_option maxRecDepth 100000
set_option maxHeartbeats 4000000
theorem aef {cs:List eD} {a:Int} (h:iy cs a 1=true):a=1:=by
 unfold iy at h;split at h
 ·omega
 ·split at h
  ·simp at h
  ·rw[if_pos (.inr (by omega))]at h;cases h
theorem aei {u:aO} {M:bM} (hT:cz u) (hM:oh u M) {v:Vl} (hw:kE M.objs.length v) (h:Iv M.objs v=1):v.ref=false:=by
 cases hv:v.ref
 ·rfl
 ·have hn:=hw.1 hv;unfold Iv at h;rw[hv]at h;simp only[Bool.true_eq_false,if_false]at h;split at h
  ·cases h
  ·have:=Iw hT hM (k:=v.n) (by omega) (by omega);unfold typeOf at h;repeat' split at h
   all_goals omega
theorem aeg {u:aO} {M R:bM} {us mc xc:List Value} {h0 h2:Heap} {K:Value->Heap->Prop} {E:List PanicEntry->Heap->Prop} (hu:dG h0 us u) (hM:wI h0 mc M) (hQ:xg h0 mc M) (l:h0.le h2) (EF:z5 u M R) (oq:∀ h3,h2.le h3->xg h3 xc R) (hK:∀ x h3,h2.le h3->Pure prog 13 [.agg ⟨xc⟩,.agg ⟨x⟩] h3 (.bool true)->K (.agg ⟨x⟩) h3):iF prog 14 [.agg ⟨us⟩,.agg ⟨mc⟩] h2 K E :=
 cX (Rt _ _ u M h2 (hu.le l) (hM.le l) (hQ.le l) R EF) λv h3 hh=>by
  obtain⟨l3,ad3,B3,rfl,o3,n3,f3⟩:=hh;exact⟨l3,hK _ _ l3 (aaB _ _ R h3 (oq h3 l3) (o3.adz EF.ads))⟩
theorem aec {cs:List eD} (ok:cI cs) {a b c:Int} (ha:a < 8+cs.length) (h1:iy cs a b=true) (h2:iy cs b c=true):iy cs a c=true:=by
 by_cases Qt:a=b
 ·subst Qt;exact h2
 by_cases hbc:b=c
 ·subst hbc;exact h1
 by_cases hc:a=c\/c=0
 ·unfold iy;rw[if_pos hc]
 unfold iy at h1 h2 ⊢;rw[if_neg (by omega)]at h2;split at h2
 ·rw[if_neg (by omega)]at h1;split at h1
  ·omega
  ·rw[if_pos (by omega)]at h1;cases h1
 split at h2
 ·cases h2
 split at h2
 ·have h2:c=8:=of_decide_eq_true h2;rw[if_neg (by omega)]at h1;split at h1
  ·rw[if_neg (by omega),if_pos (by assumption)];exact decide_eq_true (by omega)
  ·rw[if_pos (by omega)]at h1;cases h1
 ·rw[if_neg (by omega)]at h1;split at h1
  ·rw[if_neg (by omega),if_pos (by assumption)];exact decide_eq_true (by omega)
  split at h1
  ·cases h1
  split at h1
  ·have h1:b=8:=of_decide_eq_true h1;rw[FZ ok _ (Nat.lt_succ_self _) (by have:=ok.1;omega) (by omega)]at h2;cases h2
  ·rw[if_neg (by omega),if_neg (by omega),if_neg (by omega),if_neg (by omega)];exact Ei ok _ (Nat.lt_succ_self _) (by omega) h1 h2
def vin (u:aO) (M:bM) (v:Vl) (t:Int):Prop:=kE M.objs.length v/\iy u.J (Iv M.objs v) t=true
theorem vin.word {u:aO} {M:bM} {v:Vl} (hT:cz u) (hM:oh u M) (h:vin u M v 1):v.ref=false:=aei hT hM h.1 (aef h.2)
theorem ad9 {cs:List eD}:∀ {l r:List Int},l.length=r.length->jn cs l r=true->∀ i (h1:i < l.length) (h2:i < r.length),iy cs l[i] r[i]=true
 | [],[],_,_,i,h1,_=>by simp at h1
 | a::l,b::r,hl,h,i,h1,h2=>by
  rw[jn,Bool.and_eq_true]at h;cases i with
  | zero=>exact h.1
  | succ i=>exact ad9 (by simpa using hl) h.2 i (by simpa using h1) (by simpa using h2)
theorem tC.pop {u:aO} {M:bM} {f:bQ} (t:tC u M f) {types:List Int} {r:dY} (h:iA u.J (z9 u f) types=some r):∃ rest aR,f.stack=rest++aR/\aR.length=types.length/\r.stack.length=rest.length/\∀ i (h1:i < aR.length) (h2:i < types.length),vin u M aR[i] types[i]:=by
 obtain⟨_,hl,ha,_⟩:=t.step;unfold iA at h;split at h
 ·rename_i hp;simp only[v_]at h;unfold vI at hp;simp only[Bool.and_eq_true,decide_eq_true_eq]at hp;obtain⟨xK,CM⟩:=hp;refine⟨f.stack.take (f.stack.length-types.length),f.stack.drop (f.stack.length-types.length),(List.take_append_drop _ _).symm,by simp;omega,by rw[<-h];simp;omega,λi h1 h2=>?_⟩;have F3:f.stack.length-types.length+i < f.stack.length:=by simp at h1;omega
  have hg:=ad9 (by simp;omega) CM i (by simp;omega) h2;simp only[List.getElem_drop]at hg ⊢;have hw:=t.frW.2.2.2.2.2 _ (x_ F3);refine⟨hw,aec t.fit.unit.1 (Nr t.fit.unit t.fit.ok hw).2 (ha.2 _ F3 (by omega)) ?_⟩;simp only[hl];exact hg
 ·cases h
theorem tC.aej {u:aO} {M:bM} {f:bQ} (t:tC u M f) {a b:Int} {r:dY} (h:iA u.J (z9 u f) [a,b]=some r):∃ rest x y,f.stack=rest++[x,y]/\r.stack.length=rest.length/\vin u M x a/\vin u M y b:=by
 obtain⟨rest,aR,h1,h2,h3,h4⟩:=t.pop h;match aR,h2,h1,h4 with
 | [x,y],_,h1,h4=>exact⟨rest,x,y,h1,h3,h4 0 (by simp) (by simp),h4 1 (by simp) (by simp)⟩
theorem aeh {u:aO} {x:ez} {rest aR:List Vl} {ws:List Int} (hs:di u x=some ws) (hl:ws.length=aR.length) (ho:jD ws aR=true):ee u x (rest++aR)=some (aR,rest):=by
 unfold ee;rw[hs];simp[hl,ho]
theorem aea (u:aO) (n:Int) (M:bM):(∃(g:bQ) (gs:List bQ),cK u n M = {M with ag:=gs++[{g with stack:=[⟨true,n⟩]}]})\/cK u n M = {M with ag:=[],fin:=2,out:=⟨true,n⟩}:=by
 unfold cK;split
 ·rename_i l hl;obtain⟨_,g,gs,k,_,_,rfl⟩:=rG hl;exact .inl ⟨{g with pc:=k.to},gs.reverse,by simp⟩
 ·exact .inr rfl
theorem tC.fault {u:aO} {M:bM} {f:bQ} (t:tC u M f) {k:Int} (hk:k≠0) (h:kD u M.ag.dropLast f M=.error k):(fB u M).objs=M.objs/\(((fB u M).fin=0/\∃(g:bQ) (gs:List bQ),(fB u M).ag=gs++[{g with stack:=[⟨true,k⟩]}])\/((fB u M).fin=2/\(fB u M).ag=[]/\(fB u M).out=⟨true,k⟩)):=by
 rw[t.eq,h];simp only[if_neg hk];have h0:=t.fin;rcases aea u k M with ⟨g,gs,e⟩|e
 ·rw[e];exact⟨rfl,.inl ⟨h0,g,gs,rfl⟩⟩
 ·rw[e];exact⟨rfl,.inr ⟨rfl,rfl,rfl⟩⟩
theorem aed {r:Option dY} {t:Int} {s:dY} (h:jo r t=some s):∃ q,r=some q/\q.stack.length < 4:=by
 cases r with
 | none=>cases h
 | some q =>
  refine⟨q,rfl,?_⟩;unfold jo at h;simp only at h;split at h
  ·cases h
  ·omega
theorem tC.do2 {u:aO} {M:bM} {f:bQ} (t:tC u M f) (hk:(hY u f).kind=7):∃ rest a b,f.stack=rest++[a,b]/\rest.length < 4 /\
  (((iJ (hY u f).a a.n b.n).2=true/\fB u M = {M with ag:=M.ag.dropLast++[{f with stack:=rest++[⟨false,(iJ (hY u f).a a.n b.n).1⟩],pc:=f.pc+1}],steps:=M.steps+1}) \/
   ((iJ (hY u f).a a.n b.n).2=false/\(((fB u M).fin=0/\∃(g:bQ) (gs:List bQ),(fB u M).ag=gs++[{g with stack:=[⟨true,1⟩]}])\/((fB u M).fin=2/\(fB u M).out=⟨true,1⟩)))):=by
 obtain⟨AW,hl,ha,nx,hs⟩:=t.step;have JW:jo (iA u.J (z9 u f) [1,1]) 1=some nx:=by
  unfold stepT qv at hs;simpa [hk]using hs
 obtain⟨q,hq,h4⟩:=aed JW;obtain⟨rest,a,b,h1,h2,h3,h5⟩:=t.aej hq;have hra:=h3.word t.fit.unit t.fit.ok;have Ep:=h5.word t.fit.unit t.fit.ok;have ht:ee u (hY u f) f.stack=some ([a,b],rest):=by
  rw[h1];exact aeh (ws:=[1,1]) (by unfold di;simp[hk]) rfl (by simp[jD,hra,Ep])
 have hd:=t.do_ ht;rw[if_neg (by omega)]at hd;have hm:gG u (hY u f) [a,b] M.objs {f with stack:=rest} M.said=if (iJ (hY u f).a a.n b.n).2 then fA M.objs {f with stack:=rest} M.said ⟨false,(iJ (hY u f).a a.n b.n).1⟩else .error 1:=by
  unfold gG;simp[hk]
 rw[hm]at hd;refine⟨rest,a,b,h1,by omega,?_⟩;cases hf:(iJ (hY u f).a a.n b.n).2
 ·rw[hf,if_neg (by simp)]at hd;obtain⟨_,h⟩:=t.fault (by omega) hd;exact .inr ⟨rfl,h.imp id λh=>⟨h.1,h.2.2⟩⟩
 ·rw[hf,if_pos rfl]at hd;refine .inl ⟨rfl,?_⟩;rw[t.eq,hd];unfold fA dH;simp[show rest.length < 4 by omega]
theorem row_one {h:Heap} {b:Nat} {t:TypeId} {fz:Nat × Nat} {v:Vl} (g:h b=some (.cells #[.bool v.ref,.int .i64 v.n] t fz)):Row 2 G7 h (.slice (some ⟨b,0,none⟩) 1 1) [v] :=
 ⟨by simp,some ⟨b,0,none⟩,1,rfl,by simp,.inr ⟨b,0,rfl,λi x hi=>by
  obtain⟨hl,rfl⟩:=List.getElem?_eq_some_iff.1 hi;have:i=0:=by simpa using hl
  subst this;exact⟨[.bool v.ref,.int .i64 v.n],by simp[fj,rd,g],rfl⟩⟩⟩
theorem aeb {α:Type} {l k:List α} {x:α} (h:l=k++[x]) (h1:k.length < l.length):l[k.length]=x:=by
 subst h;simp
theorem aee (v:Value) (n:Nat) (h:Heap) (hB:Bytes h v n) (hn:n<=140737488355328) (hy:TG h):Pure prog 4 [v] h (.bool true):=by
 have hB0:=hB;obtain⟨p,c,rfl,hc,_⟩:=hB;refine jh au func4 ac2 ok4 rfl ?_;conv=>whnf
 apply ax<;>intro g;all_goals conv=>whnf
 ·exact⟨rfl,z_ h⟩
 refine aC (M9 _ n h hB0 (by omega) hy) ?_;rintro v0 h0 ⟨l0,hA⟩;refine UF.elim hA λpc n1 cc pm n2 cm u po co pf cf pw cw M B0 hv hu o0 sm=>?_;subst hv;have hM0:=o0.read sm.small;have hQ0:=o0.adz sm.small.ads;obtain⟨R,EF⟩:=UN u M;have ti:=EF.ads;unfold nI ay at o0 hM0 hQ0 ⊢;conv=>whnf
 refine aC (Rr _ _ u M h0 hu hM0 hQ0 R EF) ?_;rintro v1 h1 ⟨l1,m1,B1,rfl,o1,n1,f1⟩;obtain⟨ad5,do_,ad4,df,ad6,adZ,rfl⟩:=o1.nI;unfold nI ay at o1 ⊢;conv=>whnf
 refine aC (aaH _ _ u M h1 (hu.le l1) (hQ0.le l1)) ?_;rintro v2 h2 ⟨l2,hT⟩;have HL:=y_ l1 l2;rcases hT with rfl|⟨f,p1,c1,p2,c2,tp,rfl,y1,y2⟩;all_goals conv=>whnf
 all_goals refine aeg hu hM0 hQ0 HL EF (λh3 l3=>(o1.aJ (cR.of_le (y_ l2 l3) _)).adz ti) (λx h3 l3 ad2=>?_)
 all_goals conv=>whnf
 all_goals refine aK ad2 ?_
 all_goals conv=>whnf
 all_goals have l13:=y_ HL l3
 all_goals have l03:=y_ l0 l13
 ·skip
  refine aeg hu hM0 hQ0 l13 EF (λh4 l4=>(o1.aJ (cR.of_le (y_ (y_ l2 l3) l4) _)).adz ti) (λx h4 l4 ad2=>?_);conv=>whnf
  refine aK ad2 ?_;conv=>whnf
  exact⟨rfl,y_ l0 (y_ l13 l4)⟩
 have oq:=(o1.aJ (cR.of_le (y_ l2 l3) _)).adz ti;have hRs:=EF.1 ⟨tp.fit.unit,tp.fit.ok⟩;have hlen:=tp.fit.ok.len;have Eh:=tp.fit.ok.nf;have hnk:=tp.frW.2.2.2.1;have y1:=y1.le l3 λ_ _ hx=>hx;have y2:=y2.le l3 λ_ _ hx=>hx;apply aT<;>intro g1;all_goals conv=>whnf
 ·skip
  refine aeg hu hM0 hQ0 l13 EF (λh4 l4=>(o1.aJ (cR.of_le (y_ (y_ l2 l3) l4) _)).adz ti) (λx h4 l4 ad2=>?_);conv=>whnf
  refine aK ad2 ?_;conv=>whnf
  exact⟨rfl,y_ l0 (y_ l13 l4)⟩
 obtain⟨rest,a,b,e1,e2,e3⟩:=tp.do2 g1;rw[<-hRs]at e3;rw[e1]at y2 ⊢;have hl2:(rest++[a,b]).length=rest.length+2:=by simp
 obtain⟨b1,of1,xs,s9,r1,a1⟩:=y2.get (i:=rest.length) (by simp);obtain⟨b2,of2,ys,wA,r2,a2⟩:=y2.get (i:=rest.length+1) (by simp);rw[show(rest++[a,b])[rest.length]'(by simp)=a by simp]at a1;rw[show(rest++[a,b])[rest.length+1]'(by simp)=b by simp]at a2;subst a1;subst a2;rw[hl2];rw[s9]at wA;simp only[v_,Addr.mk.injEq,and_true]at wA;obtain⟨rfl,rfl⟩:=wA;have ad1:=λh=>KH (hY u f).a a.n b.n h;generalize iJ (hY u f).a a.n b.n=w at ad1 e3;obtain⟨w1,w2⟩:=w;simp only[Ue]at ad1 e3;have z1:=aE r1 (i:=1) rfl;have z2:=aE r2 (i:=1) rfl;have hz1:(((rest.length+2:Nat):Int)-2).toNat=rest.length:=by omega
 have Up:(((rest.length+2:Nat):Int)-1).toNat=rest.length+1:=by omega
 obtain⟨vo,vf,vs,ad0,x1,x2,x3⟩:=oq;simp only[ay,List.cons.injEq,and_true]at ad0;obtain⟨rfl,rfl,rfl⟩:=ad0;rcases e3 with ⟨rfl,e3⟩|⟨rfl,⟨f0,g0,gs,e4⟩|⟨f2,e3⟩⟩
 ·have HC:R.fin=0:=by rw[e3];exact tp.fin
  have e4:R.ag=M.ag.dropLast++[{f with stack:=rest++[⟨false,w1⟩],pc:=f.pc+1}]:=by rw[e3]
  have hRl:R.ag.length=(M.ag.dropLast).length+1:=by rw[e4];simp
  have hRb:=ti.ag;unfold BH at hRb;obtain⟨b4,of4,vs4,hq4,r4,a4⟩:=x2.get (i:=(M.ag.dropLast).length) (by omega);rw[aeb e4 (by omega)]at a4;obtain⟨v6,v7,rfl,y4,ad7⟩:=a4;try simp only at y4 ad7
  obtain⟨pl4,cl4,rfl,_,_⟩:=y4.len;try simp only at r4
  have hkz:((R.ag.length:Int)-1).toNat=(M.ag.dropLast).length:=by omega
  obtain⟨pg,cg,rfl,_,_⟩:=ad7.len;obtain⟨b5,of5,us,hq5,r5,a5⟩:=ad7.get (i:=rest.length) (by simp);rw[show(rest++[(⟨false,w1⟩:Vl)])[rest.length]'(by simp)=⟨false,w1⟩by simp]at a5;subst a5;rw[show(rest++[(⟨false,w1⟩:Vl)]).length=rest.length+1 by simp]at r4;have hv:∀ w,(Go.binOp .eql 31 (.agg #[.bool false,.int .i64 w1]) (.agg #[.bool false,.int .i64 w1])).run prog w=.ok (.bool true) w:=λw=>by
   have:=Na ⟨false,w1⟩ ⟨false,w1⟩ w;simpa using this
  repeat' ((first|refine aG s9 ?_|refine aq ?_|refine ld (by rw[hz1];exact z1) ?_|refine ld (by rw[Up];exact z2) ?_|refine ah ?_|refine aK (ad1 _) ?_|apply And.intro|exact trivial)<;>conv=>whnf)
  refine bH ?_;conv=>whnf
  repeat' ((first|refine ah ?_|refine aq ?_|refine aG hq4 ?_|refine dJ (by rw[hkz];exact r4) ?_|refine cx ?_|refine aG hq5 ?_|refine dJ (by rw[hz1];exact r5) ?_|apply And.intro|exact trivial)<;>conv=>whnf)
  refine iI rfl rfl (λw=>by simp[eqGuard]) (λw=>hv w) ?_;conv=>whnf
  exact⟨rfl,l03⟩
 ·skip
  have hRl:R.ag.length=gs.length+1:=by rw[e4];simp
  have hRb:=ti.ag;unfold BH at hRb;obtain⟨b4,of4,vs4,hq4,r4,a4⟩:=x2.get (i:=gs.length) (by omega);rw[aeb e4 (by omega)]at a4;obtain⟨v6,v7,rfl,y4,ad7⟩:=a4;try simp only at y4 ad7
  obtain⟨pl4,cl4,rfl,_,_⟩:=y4.len;try simp only at r4
  have hkz:((R.ag.length:Int)-1).toNat=gs.length:=by omega
  obtain⟨pg,cg,rfl,_,_⟩:=ad7.len;repeat' ((first|refine aG s9 ?_|refine aq ?_|refine ld (by rw[hz1];exact z1) ?_|refine ld (by rw[Up];exact z2) ?_|refine ah ?_|refine aK (ad1 _) ?_|apply And.intro|exact trivial)<;>conv=>whnf)
  refine bH ?_;conv=>whnf
  repeat' ((first|refine ah ?_|refine aq ?_|refine aG hq4 ?_|refine dJ (by rw[hkz];exact r4) ?_|refine cx ?_|apply And.intro|exact trivial)<;>conv=>whnf)
  refine ec [.bool true,.int .i64 1] rfl (λb h4 hb e l4 g4=>?_);conv=>whnf
  have ad8:=ad7.le l4 λ_ _ hx=>hx;refine aj (vZ _ _ [⟨true,1⟩] h4 ad8 (row_one g4)) ?_;conv=>whnf
  exact⟨rfl,y_ l03 l4⟩
 ·have hv:∀ w,(Go.binOp .eql 31 (.agg #[.bool R.out.ref,.int .i64 R.out.n]) (.agg #[.bool true,.int .i64 1])).run prog w=.ok (.bool true) w:=λw=>by
   have:=Na R.out ⟨true,1⟩ w;rw[e3]at this ⊢;simpa using this
  repeat' ((first|refine aG s9 ?_|refine aq ?_|refine ld (by rw[hz1];exact z1) ?_|refine ld (by rw[Up];exact z2) ?_|refine ah ?_|refine aK (ad1 _) ?_|apply And.intro|exact trivial)<;>conv=>whnf)
  refine cx ?_;conv=>whnf
  refine iI rfl rfl (λw=>by simp[eqGuard]) (λw=>hv w) ?_;conv=>whnf
  exact⟨rfl,l03⟩
theorem FnStepDo_c (v:Value) (n:Nat) (h:Heap) (hB:Bytes h v n) (hn:n<=140737488355328):Pure prog 4 [v] h (.bool true):=by
 obtain⟨hs,hl,hb,hy⟩:=Rn hB;exact aaC hl (aee v n hs hb hn hy)
end Go.Proofs
