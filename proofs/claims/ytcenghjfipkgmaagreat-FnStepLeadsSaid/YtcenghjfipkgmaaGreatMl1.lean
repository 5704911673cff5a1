/- Lemmas. -/
import Derived.Calls
import Derived.KernelRfl
import Derived.Laws.Sem
import Derived.Deep.Quiet
import Derived.Scope
import Derived.Orders
import Derived.Below
import Derived.Laws.StructEq
import Derived.Laws.Cover3
import Derived.Defers
import Derived.Recover
import Derived.Test.YtcenghjfipkgmaaGreatProg
import Derived.Test.YtcenghjfipkgmaaGreatMb11
set_option linter.unusedSimpArgs false
set_option linter.unusedVariables false
namespace Go.Vc
set_option linter.constructorNameAsVariable false
set_option linter.unusedSimpArgs false
set_option linter.unusedVariables false
section
variable {P:Program} {S:oD} (hS:dQ P S)
include hS
end
variable {D:List Deferred} {n:Nat} {h0:Heap} {w0:World} {β:Nat->Nat} {e:Env} {h:Heap} {a:Act} {w:World}
variable {P:Program} {S:oD} {o:Oper} {K:Slot->Bx->Heap->Prop} {E:List PanicEntry->Heap->Prop}
set_option linter.constructorNameAsVariable false
set_option linter.unusedVariables false
variable {D:List Deferred} {P:Program} {S:oD} {n:Nat} {h0:Heap} {w0:World} {β:Nat->Nat} {e:Env} {h:Heap} {a:Act} {w:World}
set_option linter.unusedSimpArgs false
variable {D:List Deferred} {P:Program} {S:oD} {F:Fs} {o:Oper} {e:Env} {h:Heap} {K:Slot->Bx->Heap->Prop} {E:List PanicEntry->Heap->Prop}
open Go.RowKit
variable {P:Program} {f:FuncId} {args:List Value} {h:Heap} {K:Value->Heap->Prop} {E:List PanicEntry->Heap->Prop} {R:Value->Heap->Prop} {w:World}
variable {P:Program} {h:Heap} {e:Env} {Kr:Value->Heap->Prop} {dst:Option Nat} {ty t kt et:TypeId} {pos:String} {af:Array Edge} {g:Option (Nat × Bool)} {m k x:Operand} {b:Nat} {n:Int} {l:List (Int × Value)} {v:Value}
variable {P:Program}
variable {h:Heap} {e:Env} {dst:Option Nat} {t u ty:TypeId} {x y:Operand} {pos:String} {af:Array Edge} {g:Option (Nat × Bool)}
variable {P:Program} {S:oD} {h:Heap} {e:Env} {dst:Option Nat} {t u el ty:TypeId} {x y:Operand} {pos:String} {af:Array Edge} {g:Option (Nat × Bool)}
end Go.Vc
namespace Go.Proofs
open Go.Vc Go.Proofs.Tryz
def Tryz.ac2:Fs:={L:=[3,4,5,6,7,9],LL:=[29,30,31,40,44,45,46,61,63,67,69,75,81,83,90,92,96,100,102],cq:=[(6,[0,1,2,3,4,5,6,7,8,9,10,11,12,13,14]),(7,[0,1,2,3,4,5]),(10,[0,2,1,3,4,5,6,8,7,9,10,11,12,13,14,15,16,17,18,19,20,22,24,21,23,25,26,27,28,29,31,30,32,33,34,35,36,37,38,39,41,40,42,43,44,45,46,47,48])]}
theorem Tryz.ok7:aL ac2 Tryz.f7 1=true:=by kernel_rfl
def Tryz.F18:Fs:={L:=[1]}
theorem Tryz.aen:aL F18 Tryz.f18 1=true:=by kernel_rfl
set_option maxRecDepth 100000
set_option maxHeartbeats 4000000
set_option maxHeartbeats 40000000
instance (x:Sx):Decidable x.bad:=inferInstanceAs (Decidable (_\/_))
variable {α:Type} {sz:Nat} {R:Heap->List Value->α->Prop} {h0 h h':Heap} {b c:Nat} {A:List α}
section
variable {gB g g':Heap} {l1 l2:List Int} {p1 p2:Option Addr} {c1 c2:Nat} {B1 B2:List Nat} {bb:Nat} {vb:Value} {q0 q:Int}
end
open Go.Vc Go.Proofs.Tryz
set_option maxRecDepth 100000
set_option maxHeartbeats 4000000
section
variable {gB g g':Heap} {code:List ez} {pc:Option Addr} {cc:Nat} {Bc:List Nat} {el:List Int} {pe:Option Addr} {ce:Nat} {Be:List Nat} {ks:List nK} {kv:Value} {Bk:List Nat}
end
open Go.Vc Go.Proofs.Tryz
set_option maxRecDepth 100000
set_option maxHeartbeats 4000000
section
variable {g0 g g1:Heap} {cp:Option Addr} {cc:Nat} {cs:List eD} {bm cm:Nat} {aS:List (List Value)} {A:List cL} {k bb:Nat} {vb:Value} {q0 q:Int} {K:Heap->Prop}
end
open Go.Vc Go.Proofs.Tryz
set_option maxRecDepth 100000
set_option maxHeartbeats 4000000
section
variable {g2 g3:Heap} {bb:Nat} {R:bM} {po pf pw:Option Addr} {co cf cw:Nat} {B1 B2 B3:List Nat}
end
open Go.Vc Go.Proofs.Tryz
set_option maxRecDepth 100000
set_option maxHeartbeats 4000000
section
variable {h:Heap} {bu bm b5 b6:Nat} {p q po pf ps:Option Addr} {cc d co cf cs:Nat} {u:aO} {M:bM}
end
open Go.Vc Go.Proofs.Tryz
set_option maxRecDepth 100000
set_option maxHeartbeats 4000000
section
variable {u u':aO}
end
open Go.Vc Go.Proofs.Tryz
set_option maxRecDepth 100000
set_option maxHeartbeats 4000000
section
variable {u u':aO}
end
open Go.Vc Go.Proofs.Tryz
set_option maxRecDepth 100000
set_option maxHeartbeats 4000000
theorem aef {cs:List eD} {a:Int} (h:iy cs a 1=true):a=1:=by
 unfold iy at h;split at h
 ·omega
 ·split at h
  ·simp at h
  ·rw[if_pos (.inr (by omega))]at h;cases h
theorem aej {u:aO} {M:bM} (hT:cz u) (hM:oh u M) {v:Vl} (hw:kE M.objs.length v) (h:Iv M.objs v=1):v.ref=false:=by
 cases hv:v.ref
 ·rfl
 ·have hn:=hw.1 hv;unfold Iv at h;rw[hv]at h;simp only[Bool.true_eq_false,if_false]at h;split at h
  ·cases h
  ·have:=Iw hT hM (k:=v.n) (by omega) (by omega);unfold typeOf at h;repeat' split at h
   all_goals omega
theorem aeg {u:aO} {M R:bM} {us mc xc:List Value} {h0 h2:Heap} {K:Value->Heap->Prop} {E:List PanicEntry->Heap->Prop} (hu:dG h0 us u) (hM:wI h0 mc M) (hQ:xg h0 mc M) (l:h0.le h2) (EF:z5 u M R) (oq:∀ h3,h2.le h3->xg h3 xc R) (hK:∀ x h3,h2.le h3->Pure prog 13 [.agg ⟨xc⟩,.agg ⟨x⟩] h3 (.bool true)->K (.agg ⟨x⟩) h3):iF prog 14 [.agg ⟨us⟩,.agg ⟨mc⟩] h2 K E :=
 cX (Rt _ _ u M h2 (hu.le l) (hM.le l) (hQ.le l) R EF) λv h3 hh=>by
  obtain⟨l3,ad4,B3,rfl,o3,n3,f3⟩:=hh;exact⟨l3,hK _ _ l3 (aaB _ _ R h3 (oq h3 l3) (o3.adz EF.ads))⟩
theorem aed {cs:List eD} (ok:cI cs) {a b c:Int} (ha:a < 8+cs.length) (h1:iy cs a b=true) (h2:iy cs b c=true):iy cs a c=true:=by
 by_cases Qt:a=b
 ·subst Qt;exact h2
 by_cases hbc:b=c
 ·subst hbc;exact h1
 by_cases hc:a=c\/c=0
 ·unfold iy;rw[if_pos hc]
 unfold iy at h1 h2 ⊢;rw[if_neg (by omega)]at h2;split at h2
 ·rw[if_neg (by omega)]at h1;split at h1
  ·omega
  ·rw[if_pos (by omega)]at h1;cases h1
 split at h2
 ·cases h2
 split at h2
 ·have h2:c=8:=of_decide_eq_true h2;rw[if_neg (by omega)]at h1;split at h1
  ·rw[if_neg (by omega),if_pos (by assumption)];exact decide_eq_true (by omega)
  ·rw[if_pos (by omega)]at h1;cases h1
 ·rw[if_neg (by omega)]at h1;split at h1
  ·rw[if_neg (by omega),if_pos (by assumption)];exact decide_eq_true (by omega)
  split at h1
  ·cases h1
  split at h1
  ·have h1:b=8:=of_decide_eq_true h1;rw[FZ ok _ (Nat.lt_succ_self _) (by have:=ok.1;omega) (by omega)]at h2;cases h2
  ·rw[if_neg (by omega),if_neg (by omega),if_neg (by omega),if_neg (by omega)];exact Ei ok _ (Nat.lt_succ_self _) (by omega) h1 h2
theorem aeh {cs:List eD} {a b:Int} (h:iy cs a b=true) (hb:2<=b):2<=a:=by
 unfold iy at h;repeat' split at h
 all_goals first
  | omega
  | cases h
theorem aek {objs:List Ob} {v:Vl} (h:2<=Iv objs v):v.ref=true:=by
 cases hv:v.ref
 ·unfold Iv at h;rw[if_pos hv]at h;omega
 ·rfl
def vin (u:aO) (M:bM) (v:Vl) (t:Int):Prop:=kE M.objs.length v/\iy u.J (Iv M.objs v) t=true
theorem vin.word {u:aO} {M:bM} {v:Vl} (hT:cz u) (hM:oh u M) (h:vin u M v 1):v.ref=false:=aej hT hM h.1 (aef h.2)
theorem vin.lead {u:aO} {M:bM} {v:Vl} {t:Int} (h:vin u M v t) (ht:2<=t):v.ref=true:=aek (aeh h.2 ht)
theorem aec {cs:List eD}:∀ {l r:List Int},l.length=r.length->jn cs l r=true->∀ i (h1:i < l.length) (h2:i < r.length),iy cs l[i] r[i]=true
 | [],[],_,_,i,h1,_=>by simp at h1
 | a::l,b::r,hl,h,i,h1,h2=>by
  rw[jn,Bool.and_eq_true]at h;cases i with
  | zero=>exact h.1
  | succ i=>exact aec (by simpa using hl) h.2 i (by simpa using h1) (by simpa using h2)
theorem tC.pop {u:aO} {M:bM} {f:bQ} (t:tC u M f) {types:List Int} {r:dY} (h:iA u.J (z9 u f) types=some r):∃ rest aR,f.stack=rest++aR/\aR.length=types.length/\r.stack.length=rest.length/\∀ i (h1:i < aR.length) (h2:i < types.length),vin u M aR[i] types[i]:=by
 obtain⟨_,hl,ha,_⟩:=t.step;unfold iA at h;split at h
 ·rename_i hp;simp only[v_]at h;unfold vI at hp;simp only[Bool.and_eq_true,decide_eq_true_eq]at hp;obtain⟨xK,CM⟩:=hp;refine⟨f.stack.take (f.stack.length-types.length),f.stack.drop (f.stack.length-types.length),(List.take_append_drop _ _).symm,by simp;omega,by rw[<-h];simp;omega,λi h1 h2=>?_⟩;have F3:f.stack.length-types.length+i < f.stack.length:=by simp at h1;omega
  have hg:=aec (by simp;omega) CM i (by simp;omega) h2;simp only[List.getElem_drop]at hg ⊢;have hw:=t.frW.2.2.2.2.2 _ (x_ F3);refine⟨hw,aed t.fit.unit.1 (Nr t.fit.unit t.fit.ok hw).2 (ha.2 _ F3 (by omega)) ?_⟩;simp only[hl];exact hg
 ·cases h
theorem tC.aeo {u:aO} {M:bM} {f:bQ} (t:tC u M f) {a:Int} {r:dY} (h:iA u.J (z9 u f) [a]=some r):∃ rest x,f.stack=rest++[x]/\r.stack.length=rest.length/\vin u M x a:=by
 obtain⟨rest,aR,h1,h2,h3,h4⟩:=t.pop h;obtain⟨x,rfl⟩:=gu (by simpa using h2);exact⟨rest,x,h1,h3,h4 0 (by simp) (by simp)⟩
theorem tC.aem {u:aO} {M:bM} {f:bQ} (t:tC u M f) {a b:Int} {r:dY} (h:iA u.J (z9 u f) [a,b]=some r):∃ rest x y,f.stack=rest++[x,y]/\r.stack.length=rest.length/\vin u M x a/\vin u M y b:=by
 obtain⟨rest,aR,h1,h2,h3,h4⟩:=t.pop h;match aR,h2,h1,h4 with
 | [x,y],_,h1,h4=>exact⟨rest,x,y,h1,h3,h4 0 (by simp) (by simp),h4 1 (by simp) (by simp)⟩
theorem aea {u:aO} {x:ez} {rest aR:List Vl} {ws:List Int} (hs:di u x=some ws) (hl:ws.length=aR.length) (ho:jD ws aR=true):ee u x (rest++aR)=some (aR,rest):=by
 unfold ee;rw[hs];simp[hl,ho]
theorem tC.leads {u:aO} {M:bM} {f:bQ} (t:tC u M f) (hk:8<=(hY u f).kind/\(hY u f).kind<=11):∃ rest aR kq,f.stack=rest++aR/\((hY u f).kind=11->kq=true) /\
  fB u M = {M with ag:=M.ag.dropLast++[{f with stack:=rest,pc:=if kq then (hY u f).a else f.pc+1}],steps:=M.steps+1}:=by
 obtain⟨AW,hl,ha,nx,hs⟩:=t.step;have fin:∀ {rest aR:List Vl} {kq:Bool},f.stack=rest++aR->ee u (hY u f) f.stack=some (aR,rest)->((hY u f).kind=11->kq=true)->gG u (hY u f) aR M.objs {f with stack:=rest} M.said=.ok (M.objs,{f with stack:=rest},M.said,kq)->∃ rest aR kq,f.stack=rest++aR/\((hY u f).kind=11->kq=true) /\
   fB u M = {M with ag:=M.ag.dropLast++[{f with stack:=rest,pc:=if kq then (hY u f).a else f.pc+1}],steps:=M.steps+1}:=λ{rest aR kq} h1 ht hg hm=>by
  have hd:=t.do_ ht;rw[if_neg (by omega),hm]at hd;exact⟨rest,aR,kq,h1,hg,by rw[t.eq,hd]⟩
 have hp:(hY u f).kind=8\/(hY u f).kind=9\/(hY u f).kind=10\/(hY u f).kind=11:=by omega
 rcases hp with k|k|k|k
 ·obtain⟨rest,a,b,h1,h2,h3,h5⟩:=t.aem (a:=1) (b:=1) (r:=nx) (by unfold stepT qv at hs;simpa [k]using hs);have hra:=h3.word t.fit.unit t.fit.ok;have Ep:=h5.word t.fit.unit t.fit.ok;exact fin h1 (by rw[h1];exact aea (ws:=[1,1]) (by unfold di;simp[k]) rfl (by simp[jD,hra,Ep])) (by omega) (by unfold gG;simp[k];rfl)
 ·obtain⟨rest,a,b,h1,h2,h3,h5⟩:=t.aem (a:=1) (b:=1) (r:=nx) (by unfold stepT qv at hs;simpa [k]using hs);have hra:=h3.word t.fit.unit t.fit.ok;have Ep:=h5.word t.fit.unit t.fit.ok;exact fin h1 (by rw[h1];exact aea (ws:=[1,1]) (by unfold di;simp[k]) rfl (by simp[jD,hra,Ep])) (by omega) (by unfold gG;simp[k];rfl)
 ·obtain⟨rest,a,h1,h2,h3⟩:=t.aeo (a:=8) (r:=nx) (by unfold stepT qv at hs;simpa [k]using hs);have hra:=h3.lead (by omega);exact fin h1 (by rw[h1];exact aea (ws:=[2]) (by unfold di;simp[k]) rfl (by simp[jD,hra])) (by omega) (by unfold gG;simp[k];rfl)
 ·refine fin (rest:=f.stack) (aR:=[]) (kq:=true) (by simp) ?_ (λ_=>rfl) (by unfold gG;simp[k]);have:=aea (u:=u) (x:=hY u f) (rest:=f.stack) (aR:=[]) (ws:=[]) (by unfold di;simp[k]) rfl rfl;simpa using this
theorem aee (x:ez) (h:Heap):Pure prog 18 [.agg #[.int .i64 x.kind,.int .i64 x.a,.int .i64 x.b]] h (.bool (eA x)):=by
 have e:eA x=decide (x.kind=8\/x.kind=9\/x.kind=10\/x.kind=11):=by unfold eA;exact decide_eq_decide.2 (by omega)
 rw[e];refine iC au func18 F18 aen rfl ?_;conv=>whnf
 repeat' ((apply ax<;>intro _)<;>conv=>whnf)
 all_goals first|exact⟨by rw[decide_eq_true (by omega)],rfl⟩|exact⟨by congr 1;exact decide_eq_decide.2 (by omega),rfl⟩
theorem ael {α:Type} {sz:Nat} {R:Heap->List Value->α->Prop} {h:Heap} {p:Option Addr} {n c:Nat} {l:List α} (hr:Row sz R h (.slice p n c) l):l.length<=c:=by
 obtain⟨_,_,he,hc,_⟩:=hr.len;simp only[Z_]at he;omega
theorem aei {α:Type} {l k:List α} {x:α} (h:l=k++[x]) (h1:k.length < l.length):l[k.length]=x:=by
 subst h;simp
theorem aeb (v:Value) (n:Nat) (h:Heap) (hB:Bytes h v n) (hn:n<=140737488355328) (hy:TG h):Pure prog 7 [v] h (.bool true):=by
 have hB0:=hB;obtain⟨p,c,rfl,hc,_⟩:=hB;refine jh au func7 ac2 ok7 rfl ?_;conv=>whnf
 apply ax<;>intro g;all_goals conv=>whnf
 ·exact⟨rfl,z_ h⟩
 refine aC (M9 _ n h hB0 (by omega) hy) ?_;rintro v0 h0 ⟨l0,hA⟩;refine UF.elim hA λpc n1 cc pm n2 cm u po co pf cf pw cw M B0 hv hu o0 sm=>?_;subst hv;have hM0:=o0.read sm.small;have hQ0:=o0.adz sm.small.ads;obtain⟨R,EF⟩:=UN u M;have ti:=EF.ads;unfold nI ay at o0 hM0 hQ0 ⊢;conv=>whnf
 refine aC (Rr _ _ u M h0 hu hM0 hQ0 R EF) ?_;rintro v1 h1 ⟨l1,m1,B1,rfl,o1,n1,f1⟩;obtain⟨ad6,do_,ad5,df,ad7,adZ,rfl⟩:=o1.nI;unfold nI ay at o1 ⊢;conv=>whnf
 refine aC (aaH _ _ u M h1 (hu.le l1) (hQ0.le l1)) ?_;rintro v2 h2 ⟨l2,hT⟩;have HL:=y_ l1 l2;rcases hT with rfl|⟨f,p1,c1,p2,c2,tp,rfl,y1,y2⟩;all_goals conv=>whnf
 all_goals refine aeg hu hM0 hQ0 HL EF (λh3 l3=>(o1.aJ (cR.of_le (y_ l2 l3) _)).adz ti) (λx h3 l3 ad3=>?_)
 all_goals conv=>whnf
 all_goals refine aK ad3 ?_
 all_goals conv=>whnf
 all_goals have l13:=y_ HL l3
 all_goals have l03:=y_ l0 l13
 ·skip
  refine aeg hu hM0 hQ0 l13 EF (λh4 l4=>(o1.aJ (cR.of_le (y_ (y_ l2 l3) l4) _)).adz ti) (λx h4 l4 ad3=>?_);conv=>whnf
  refine aK ad3 ?_;conv=>whnf
  exact⟨rfl,y_ l0 (y_ l13 l4)⟩
 have oq:=(o1.aJ (cR.of_le (y_ l2 l3) _)).adz ti;have hRs:=EF.1 ⟨tp.fit.unit,tp.fit.ok⟩;have hlen:=tp.fit.ok.len;have Eh:=tp.fit.ok.nf;have hnk:=tp.frW.2.2.2.1;have y1:=y1.le l3 λ_ _ hx=>hx;have y2:=y2.le l3 λ_ _ hx=>hx;refine aK (aee (hY u f) h3) ?_;conv=>whnf
 apply cJ<;>intro hj;all_goals conv=>whnf
 ·skip
  refine aeg hu hM0 hQ0 l13 EF (λh4 l4=>(o1.aJ (cR.of_le (y_ (y_ l2 l3) l4) _)).adz ti) (λx h4 l4 ad3=>?_);conv=>whnf
  refine aK ad3 ?_;conv=>whnf
  exact⟨rfl,y_ l0 (y_ l13 l4)⟩
 have KT:8<=(hY u f).kind/\(hY u f).kind<=11:=by unfold eA at hj;simpa using hj
 obtain⟨rest,aR,kq,e1,e2,e3⟩:=tp.leads KT;rw[<-hRs]at e3;obtain⟨np,hnp,e4⟩:∃ np,(np=(hY u f).a\/(hY u f).kind≠11/\np=f.pc+1)/\R.ag=M.ag.dropLast++[{f with stack:=rest,pc:=np}]:=by
  refine⟨if kq then (hY u f).a else f.pc+1,?_,by rw[e3]⟩;cases kq
  ·exact .inr ⟨λhx=>(by have:=e2 hx;cases this),rfl⟩
  ·exact .inl rfl
 have eo:R.objs=M.objs:=by rw[e3]
 obtain⟨vo,vf,vs,ad0,x1,x2,x3⟩:=oq;simp only[ay,List.cons.injEq,and_true]at ad0;obtain⟨rfl,rfl,rfl⟩:=ad0;have hRl:R.ag.length=(M.ag.dropLast).length+1:=by rw[e4];simp
 have hRb:=ti.ag;unfold BH at hRb;obtain⟨b4,of4,vs4,hq4,r4,a4⟩:=x2.get (i:=(M.ag.dropLast).length) (by omega);rw[aei e4 (by omega)]at a4;obtain⟨v6,v7,rfl,y4,ad8⟩:=a4;try simp only at y4 ad8
 obtain⟨pl4,cl4,rfl,_,_⟩:=y4.len;try simp only at r4
 have hkz:((R.ag.length:Int)-1).toNat=(M.ag.dropLast).length:=by omega
 obtain⟨pg,cg,rfl,_,_⟩:=ad8.len;obtain⟨vo,vf,vs,ad0,w1,w2,w3⟩:=hQ0.le l13;simp only[ay,List.cons.injEq,and_true]at ad0;obtain⟨rfl,rfl,rfl⟩:=ad0;have x1':Row 2 x8 h3 (.slice ad6 R.objs.length do_) M.objs:=by
  generalize hl:R.objs.length=n at x1 ⊢;rw[<-eo];exact x1
 have ad2:=E8 _ _ M.objs h3 x1' w1;have ad1:=vZ _ _ f.locals h3 y4 y1;have ad9:=Nm y2 (k:=rest.length) (by rw[e1];simp);rw[show f.stack.take rest.length=rest by rw[e1];simp]at ad9;have kS:=vZ _ _ rest h3 ad8 ad9;have LV:rest.length<=f.stack.length:=by rw[e1];simp
 have JS:=ael y2;have AW:=tp.frW.2.1;have lI:=(tp.fit.unit.aV tp.frW.1).2.1.2.1;repeat' ((first|refine ah ?_|refine aq ?_|refine aG hq4 ?_|refine dJ (by rw[hkz];exact r4) ?_|refine aK ad2 ?_|apply And.intro|exact trivial)<;>conv=>whnf)
 refine aK ad1 ?_;conv=>whnf
 repeat' ((first|refine cx ?_|refine aq ?_|apply And.intro|exact trivial)<;>conv=>whnf)
 refine aK kS ?_;conv=>whnf
 repeat' ((first|apply ax<;>intro _|apply aT<;>intro _|refine ah ?_|apply And.intro|exact trivial)<;>conv=>whnf)
 all_goals first|exact⟨rfl,l03⟩|exact⟨by rw[decide_eq_true (by omega)],l03⟩|(exfalso;omega)
theorem FnStepLeads_c (v:Value) (n:Nat) (h:Heap) (hB:Bytes h v n) (hn:n<=140737488355328):Pure prog 7 [v] h (.bool true):=by
 obtain⟨hs,hl,hb,hy⟩:=Rn hB;exact aaC hl (aeb v n hs hb hn hy)
end Go.Proofs
