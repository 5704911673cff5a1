/- Lemmas. -/
import Derived.Calls
import Derived.KernelRfl
import Derived.Laws.Sem
import Derived.Deep.Quiet
import Derived.Scope
import Derived.Orders
import Derived.Below
import Derived.Laws.StructEq
import Derived.Laws.Cover3
import Derived.Defers
import Derived.Recover
import Derived.Test.YtcenghjfipkgmaaGreatProg
import Derived.Test.YtcenghjfipkgmaaGreatMb11
set_option linter.unusedSimpArgs false
set_option linter.unusedVariables false
namespace Go.Vc
set_option linter.constructorNameAsVariable false
set_option linter.unusedSimpArgs false
set_option linter.unusedVariables false
section
variable {P:Program} {S:oD} (hS:dQ P S)
include hS
end
variable {D:List Deferred} {n:Nat} {h0:Heap} {w0:World} {β:Nat->Nat} {e:Env} {h:Heap} {a:Act} {w:World}
variable {P:Program} {S:oD} {o:Oper} {K:Slot->Bx->Heap->Prop} {E:List PanicEntry->Heap->Prop}
set_option linter.constructorNameAsVariable false
set_option linter.unusedVariables false
variable {D:List Deferred} {P:Program} {S:oD} {n:Nat} {h0:Heap} {w0:World} {β:Nat->Nat} {e:Env} {h:Heap} {a:Act} {w:World}
set_option linter.unusedSimpArgs false
variable {D:List Deferred} {P:Program} {S:oD} {F:Fs} {o:Oper} {e:Env} {h:Heap} {K:Slot->Bx->Heap->Prop} {E:List PanicEntry->Heap->Prop}
open Go.RowKit
variable {P:Program} {f:FuncId} {args:List Value} {h:Heap} {K:Value->Heap->Prop} {E:List PanicEntry->Heap->Prop} {R:Value->Heap->Prop} {w:World}
variable {P:Program} {h:Heap} {e:Env} {Kr:Value->Heap->Prop} {dst:Option Nat} {ty t kt et:TypeId} {pos:String} {af:Array Edge} {g:Option (Nat × Bool)} {m k x:Operand} {b:Nat} {n:Int} {l:List (Int × Value)} {v:Value}
variable {P:Program}
variable {h:Heap} {e:Env} {dst:Option Nat} {t u ty:TypeId} {x y:Operand} {pos:String} {af:Array Edge} {g:Option (Nat × Bool)}
variable {P:Program} {S:oD} {h:Heap} {e:Env} {dst:Option Nat} {t u el ty:TypeId} {x y:Operand} {pos:String} {af:Array Edge} {g:Option (Nat × Bool)}
end Go.Vc
namespace Go.Proofs
open Go.Vc Go.Proofs.Tryz
def Tryz.ac2:Fs:={L:=[3,4,5,6,7,11,14],LL:=[33,34,35,45,48,49,50,67,69,73,77,78,83,87,89,95,145,153],cq:=[(6,[0,1,2,3,4,5,6,7,8,9,10,11,12,13,14]),(7,[0,1,2,3,4,5]),(12,[0,2,1,3,4,5,6,7,8,9,10,11,12,13,14,15,16,17,18,19,20,22,21,23,24,25,26,27,29,28,30,31,32,33,34,35]),(22,[0,2,6,1,3,4,9,5,7,8,10])]}
theorem Tryz.ok6:aL ac2 Tryz.f6 1=true:=by kernel_rfl
set_option maxRecDepth 100000
set_option maxHeartbeats 4000000
set_option maxHeartbeats 40000000
instance (x:Sx):Decidable x.bad:=inferInstanceAs (Decidable (_\/_))
variable {α:Type} {sz:Nat} {R:Heap->List Value->α->Prop} {h0 h h':Heap} {b c:Nat} {A:List α}
section
variable {gB g g':Heap} {l1 l2:List Int} {p1 p2:Option Addr} {c1 c2:Nat} {B1 B2:List Nat} {bb:Nat} {vb:Value} {q0 q:Int}
end
open Go.Vc Go.Proofs.Tryz
set_option maxRecDepth 100000
set_option maxHeartbeats 4000000
section
variable {gB g g':Heap} {code:List ez} {pc:Option Addr} {cc:Nat} {Bc:List Nat} {el:List Int} {pe:Option Addr} {ce:Nat} {Be:List Nat} {ks:List nK} {kv:Value} {Bk:List Nat}
end
open Go.Vc Go.Proofs.Tryz
set_option maxRecDepth 100000
set_option maxHeartbeats 4000000
section
variable {g0 g g1:Heap} {cp:Option Addr} {cc:Nat} {cs:List eD} {bm cm:Nat} {aS:List (List Value)} {A:List cL} {k bb:Nat} {vb:Value} {q0 q:Int} {K:Heap->Prop}
end
open Go.Vc Go.Proofs.Tryz
set_option maxRecDepth 100000
set_option maxHeartbeats 4000000
section
variable {g2 g3:Heap} {bb:Nat} {R:bM} {po pf pw:Option Addr} {co cf cw:Nat} {B1 B2 B3:List Nat}
end
open Go.Vc Go.Proofs.Tryz
set_option maxRecDepth 100000
set_option maxHeartbeats 4000000
section
variable {h:Heap} {bu bm b5 b6:Nat} {p q po pf ps:Option Addr} {cc d co cf cs:Nat} {u:aO} {M:bM}
end
open Go.Vc Go.Proofs.Tryz
set_option maxRecDepth 100000
set_option maxHeartbeats 4000000
theorem aei {P:Program} {t:TypeId} {f0 f1:Field} {k':IntKind} (a a':Bool) (c c':Int) (h3:P.underlying t=some (.struct #[f0,f1])) (h4:P.stoodInHeld t=false) (qP:f0.name≠ "_") (AX:f1.name≠ "_") (h5:P.underlying f0.type=some .bool) (h6:P.underlying f1.type=some (.int k'))
  (EO:∀(a:Bool) (c:Int) (w:World),(part f0.type #[.bool a,.int .i64 c] f0.offset).run P w=.ok (.bool a) w) (xK:∀(a:Bool) (c:Int) (w:World),(part f1.type #[.bool a,.int .i64 c] f1.offset).run P w=.ok (.int .i64 c) w) (w:World) :
  (Go.binOp .neq t (.agg #[.bool a,.int .i64 c]) (.agg #[.bool a',.int .i64 c'])).run P w=.ok (.bool (!(a==a'&&c==c'))) w:=by
 have hf:P.fieldsOf t = #[f0,f1]:=by simp[Program.fieldsOf,h3]
 have e1:(Op.equalIn (9999+1) t (.agg #[.bool a,.int .i64 c]) (.agg #[.bool a',.int .i64 c'])).run P w=.ok (a==a'&&c==c') w:=by
  rw[run_equalIn_struct w 9999 t _ _ (by rw[hf];exact h3) h4,hf];simp only[Op.eqFields,qP,AX,ne_eq,not_false_eq_true,if_true,Sem.run_bind,EO,xK,Result.andThen_ok];rw[show(9999:Nat)=9998+1 from rfl,run_equalIn_bool' w 9998 f0.type a a' h5];by_cases ha:a=a'
  ·subst ha;simp only[Result.andThen_ok,beq_self_eq_true,Bool.not_true,Bool.false_eq_true,if_false,Sem.run_bind,xK];rw[run_equalIn_int w 9998 f1.type .i64 k' c c' h6];by_cases hc:c=c'<;>simp[hc]
  ·have:(a==a')=false:=by simpa using ha
   simp[this]
 have e3:(Op.equal t (.agg #[.bool a,.int .i64 c]) (.agg #[.bool a',.int .i64 c'])).run P w=.ok (a==a'&&c==c') w:=e1;rw[show Go.binOp .neq t (.agg #[.bool a,.int .i64 c]) (.agg #[.bool a',.int .i64 c'])=(do pure (.bool (!(<-Op.equal t (.agg #[.bool a,.int .i64 c]) (.agg #[.bool a',.int .i64 c'])))))from rfl];simp only[Sem.run_bind,e3,Result.andThen_ok,Sem.run_pure]
theorem aeb (x y:Vl) (b:Bool) (hb:b = !(x.ref==y.ref&&x.n==y.n)) (w:World):(Go.binOp .neq 31 (.agg #[.bool x.ref,.int .i64 x.n]) (.agg #[.bool y.ref,.int .i64 y.n])).run prog w=.ok (.bool b) w:=by
 subst hb;refine aei _ _ _ _ rfl ?_ ?_ ?_ rfl rfl ?_ ?_ w
 ·kernel_rfl
 ·decide
 ·decide
 ·intro a c w;rfl
 ·intro a c w;rfl
theorem ael {x y:Vl}:(x.ref==y.ref&&x.n==y.n)=true↔x=y:=by
 obtain⟨r,n⟩:=x;obtain⟨s,m⟩:=y;simp
section
variable {u u':aO}
end
open Go.Vc Go.Proofs.Tryz
set_option maxRecDepth 100000
set_option maxHeartbeats 4000000
section
variable {u u':aO}
end
open Go.Vc Go.Proofs.Tryz
set_option maxRecDepth 100000
set_option maxHeartbeats 4000000
theorem aee {u:aO} {M R:bM} {us mc xc:List Value} {h0 h2:Heap} {K:Value->Heap->Prop} {E:List PanicEntry->Heap->Prop} (hu:dG h0 us u) (hM:wI h0 mc M) (hQ:xg h0 mc M) (l:h0.le h2) (EF:z5 u M R) (oq:∀ h3,h2.le h3->xg h3 xc R) (hK:∀ x h3,h2.le h3->Pure prog 13 [.agg ⟨xc⟩,.agg ⟨x⟩] h3 (.bool true)->K (.agg ⟨x⟩) h3):iF prog 14 [.agg ⟨us⟩,.agg ⟨mc⟩] h2 K E :=
 cX (Rt _ _ u M h2 (hu.le l) (hM.le l) (hQ.le l) R EF) λv h3 hh=>by
  obtain⟨l3,ad3,B3,rfl,o3,n3,f3⟩:=hh;exact⟨l3,hK _ _ l3 (aaB _ _ R h3 (oq h3 l3) (o3.adz EF.ads))⟩
theorem aec {cs:List eD} (ok:cI cs) {a b c:Int} (ha:a < 8+cs.length) (h1:iy cs a b=true) (h2:iy cs b c=true):iy cs a c=true:=by
 by_cases Qt:a=b
 ·subst Qt;exact h2
 by_cases hbc:b=c
 ·subst hbc;exact h1
 by_cases hc:a=c\/c=0
 ·unfold iy;rw[if_pos hc]
 unfold iy at h1 h2 ⊢;rw[if_neg (by omega)]at h2;split at h2
 ·rw[if_neg (by omega)]at h1;split at h1
  ·omega
  ·rw[if_pos (by omega)]at h1;cases h1
 split at h2
 ·cases h2
 split at h2
 ·have h2:c=8:=of_decide_eq_true h2;rw[if_neg (by omega)]at h1;split at h1
  ·rw[if_neg (by omega),if_pos (by assumption)];exact decide_eq_true (by omega)
  ·rw[if_pos (by omega)]at h1;cases h1
 ·rw[if_neg (by omega)]at h1;split at h1
  ·rw[if_neg (by omega),if_pos (by assumption)];exact decide_eq_true (by omega)
  split at h1
  ·cases h1
  split at h1
  ·have h1:b=8:=of_decide_eq_true h1;rw[FZ ok _ (Nat.lt_succ_self _) (by have:=ok.1;omega) (by omega)]at h2;cases h2
  ·rw[if_neg (by omega),if_neg (by omega),if_neg (by omega),if_neg (by omega)];exact Ei ok _ (Nat.lt_succ_self _) (by omega) h1 h2
theorem aef {cs:List eD} {a b:Int} (h:iy cs a b=true) (hb:2<=b):2<=a:=by
 unfold iy at h;repeat' split at h
 all_goals first
  | omega
  | cases h
theorem aej {objs:List Ob} {v:Vl} (h:2<=Iv objs v):v.ref=true:=by
 cases hv:v.ref
 ·unfold Iv at h;rw[if_pos hv]at h;omega
 ·rfl
def vin (u:aO) (M:bM) (v:Vl) (t:Int):Prop:=kE M.objs.length v/\iy u.J (Iv M.objs v) t=true
theorem vin.lead {u:aO} {M:bM} {v:Vl} {t:Int} (h:vin u M v t) (ht:2<=t):v.ref=true:=aej (aef h.2 ht)
theorem vin.up {u:aO} {M:bM} {v:Vl} {c:Int} (hT:cz u) (hM:oh u M) (hc:0 < c) (h:vin u M v (8+c)) (hn:v.n≠0):up u.J (aF M.objs v.n).cls c=true:=by
 have hr:=h.lead (by omega);have h2:=h.2;have hp:=h.1.1 hr;have hcr:=(Iw hT hM (k:=v.n) (by omega) hp.2).1;have e:Iv M.objs v=typeOf (aF M.objs v.n).cls:=by unfold Iv;rw[if_neg (by simp[hr]),if_neg hn]
 rw[e]at h2;generalize (aF M.objs v.n).cls=k at h2 hcr ⊢;have ht:∀ k:Int,k≠-1->k≠-2->typeOf k=8+k:=λk h1 h3=>by unfold typeOf;rw[if_neg h1,if_neg h3]
 by_cases h1:k = -1
 ·subst h1;unfold typeOf iy at h2;simp at h2;omega
 by_cases h3:k = -2
 ·subst h3;unfold typeOf iy at h2;simp at h2;omega
 rw[ht k h1 h3]at h2;unfold iy at h2;split at h2
 ·obtain rfl:k=c:=by omega
  unfold Go.Proofs.up;rw[II];simp;omega
 ·split at h2
  ·simp at h2;omega
  ·split at h2
   ·cases h2
   ·split at h2
    ·simp at h2;omega
    ·rw[show 8+k-8=k by omega,show 8+c-8=c by omega]at h2;exact h2
theorem ad8 {cs:List eD}:∀ {l r:List Int},l.length=r.length->jn cs l r=true->∀ i (h1:i < l.length) (h2:i < r.length),iy cs l[i] r[i]=true
 | [],[],_,_,i,h1,_=>by simp at h1
 | a::l,b::r,hl,h,i,h1,h2=>by
  rw[jn,Bool.and_eq_true]at h;cases i with
  | zero=>exact h.1
  | succ i=>exact ad8 (by simpa using hl) h.2 i (by simpa using h1) (by simpa using h2)
theorem tC.pop {u:aO} {M:bM} {f:bQ} (t:tC u M f) {types:List Int} {r:dY} (h:iA u.J (z9 u f) types=some r):∃ rest aR,f.stack=rest++aR/\aR.length=types.length/\r.stack.length=rest.length/\∀ i (h1:i < aR.length) (h2:i < types.length),vin u M aR[i] types[i]:=by
 obtain⟨_,hl,ha,_⟩:=t.step;unfold iA at h;split at h
 ·rename_i hp;simp only[v_]at h;unfold vI at hp;simp only[Bool.and_eq_true,decide_eq_true_eq]at hp;obtain⟨xK,CM⟩:=hp;refine⟨f.stack.take (f.stack.length-types.length),f.stack.drop (f.stack.length-types.length),(List.take_append_drop _ _).symm,by simp;omega,by rw[<-h];simp;omega,λi h1 h2=>?_⟩;have F3:f.stack.length-types.length+i < f.stack.length:=by simp at h1;omega
  have hg:=ad8 (by simp;omega) CM i (by simp;omega) h2;simp only[List.getElem_drop]at hg ⊢;have hw:=t.frW.2.2.2.2.2 _ (x_ F3);refine⟨hw,aec t.fit.unit.1 (Nr t.fit.unit t.fit.ok hw).2 (ha.2 _ F3 (by omega)) ?_⟩;simp only[hl];exact hg
 ·cases h
theorem tC.aem {u:aO} {M:bM} {f:bQ} (t:tC u M f) {a b:Int} {r:dY} (h:iA u.J (z9 u f) [a,b]=some r):∃ rest x y,f.stack=rest++[x,y]/\r.stack.length=rest.length/\vin u M x a/\vin u M y b:=by
 obtain⟨rest,aR,h1,h2,h3,h4⟩:=t.pop h;match aR,h2,h1,h4 with
 | [x,y],_,h1,h4=>exact⟨rest,x,y,h1,h3,h4 0 (by simp) (by simp),h4 1 (by simp) (by simp)⟩
theorem ad9 (u:aO) (n:Int) (M:bM):(∃(g:bQ) (gs:List bQ),cK u n M = {M with ag:=gs++[{g with stack:=[⟨true,n⟩]}]})\/cK u n M = {M with ag:=[],fin:=2,out:=⟨true,n⟩}:=by
 unfold cK;split
 ·rename_i l hl;obtain⟨_,g,gs,k,_,_,rfl⟩:=rG hl;exact .inl ⟨{g with pc:=k.to},gs.reverse,by simp⟩
 ·exact .inr rfl
theorem tC.fault {u:aO} {M:bM} {f:bQ} (t:tC u M f) {k:Int} (hk:k≠0) (h:kD u M.ag.dropLast f M=.error k):(fB u M).objs=M.objs/\(((fB u M).fin=0/\∃(g:bQ) (gs:List bQ),(fB u M).ag=gs++[{g with stack:=[⟨true,k⟩]}])\/((fB u M).fin=2/\(fB u M).ag=[]/\(fB u M).out=⟨true,k⟩)):=by
 rw[t.eq,h];simp only[if_neg hk];have h0:=t.fin;rcases ad9 u k M with ⟨g,gs,e⟩|e
 ·rw[e];exact⟨rfl,.inl ⟨h0,g,gs,rfl⟩⟩
 ·rw[e];exact⟨rfl,.inr ⟨rfl,rfl,rfl⟩⟩
theorem aed {cs:List eD} (ok:cI cs):dw cs 0=[]:=fD (by have:=ok.1;omega)
theorem tC.ins {u:aO} {M:bM} {f:bQ} (t:tC u M f):eU u (aV u f.U) (hY u f):=by
 have w:=t.frW;have gE:f.pc.toNat < (aV u f.U).code.length:=by have:=t.step.1;have:=w.2.1.1;omega
 have e:hY u f=(aV u f.U).code[f.pc.toNat]:=by unfold hY;rw[S_,w_ gE];rfl
 rw[e];exact(t.fit.unit.aV w.1).2.1.2.2.2.1 _ (x_ gE)
theorem tC.put {u:aO} {M:bM} {f:bQ} (t:tC u M f) (hk:(hY u f).kind=18):∃ rest a b,f.stack=rest++[a,b]/\kE M.objs.length a/\a.ref=true/\0<=(hY u f).b /\
  ((a.n=0/\(fB u M).objs=M.objs/\(((fB u M).fin=0/\∃(g:bQ) (gs:List bQ),(fB u M).ag=gs++[{g with stack:=[⟨true,2⟩]}])\/((fB u M).fin=2/\(fB u M).out=⟨true,2⟩))) \/
   (0 < a.n/\(fB u M).objs=ij M.objs a.n (putAt (aF M.objs a.n).aW (hY u f).b b))):=by
 obtain⟨AW,hl,ha,nx,hs⟩:=t.step;obtain⟨Hs,FW⟩:=t.ins.wO;have Hs:=Hs (by omega);have FW:=FW (by omega);obtain⟨rest,a,b,h1,h2,h3,h5⟩:=t.aem (a:=8+(hY u f).a) (b:=(dw u.J (hY u f).a).getD (hY u f).b.toNat 0) (r:=nx) (by unfold stepT wW at hs;simpa [hk]using hs);have hra:=h3.lead (by omega);have hn:=h3.1.1 hra;have ht:ee u (hY u f) f.stack=some ([a,b],rest):=by
  rw[h1,HV (w1:=2) (w2:=0) (by unfold di;simp[hk])];simp[jD,hra]
 have hd:=t.do_ ht;rw[if_neg (by omega)]at hd;refine⟨rest,a,b,h1,h3.1,hra,FW.1,?_⟩;by_cases hz:a.n=0
 ·have hm:gG u (hY u f) [a,b] M.objs {f with stack:=rest} M.said=.error 2:=by
   unfold gG bD;simp[hk,gK hz]
  rw[hm]at hd;obtain⟨h6,h7⟩:=t.fault (by omega) hd;exact .inl ⟨hz,h6,h7.imp id λh=>⟨h.1,h.2.2⟩⟩
 ·have Ac:up u.J (aF M.objs a.n).cls (hY u f).a=true:=by
   refine h3.up t.fit.unit t.fit.ok ?_ hz;rcases Int.lt_or_le 0 (hY u f).a with h0|h0
   ·exact h0
   ·rw[show(hY u f).a=0 by omega,aed t.fit.unit.1]at FW;simp at FW;omega
  have hm:gG u (hY u f) [a,b] M.objs {f with stack:=rest} M.said=.ok (ij M.objs a.n (putAt (aF M.objs a.n).aW (hY u f).b b),{f with stack:=rest},M.said,false):=by
   unfold gG bD;simp[hk,gR (show 0 < a.n by omega) Ac]
  rw[hm]at hd;exact .inr ⟨by omega,by rw[t.eq,hd]⟩
theorem row_one {h:Heap} {b:Nat} {t:TypeId} {fz:Nat × Nat} {v:Vl} (g:h b=some (.cells #[.bool v.ref,.int .i64 v.n] t fz)):Row 2 G7 h (.slice (some ⟨b,0,none⟩) 1 1) [v] :=
 ⟨by simp,some ⟨b,0,none⟩,1,rfl,by simp,.inr ⟨b,0,rfl,λi x hi=>by
  obtain⟨hl,rfl⟩:=List.getElem?_eq_some_iff.1 hi;have:i=0:=by simpa using hl
  subst this;exact⟨[.bool v.ref,.int .i64 v.n],by simp[fj,rd,g],rfl⟩⟩⟩
theorem aeg {α:Type} {l k:List α} {x:α} (h:l=k++[x]) (h1:k.length < l.length):l[k.length]=x:=by
 subst h;simp
theorem aek {objs:List Ob} {n k:Int} {v:Vl} (h0:0 < n) (hl:n<=objs.length) (hk:0<=k) {i:Nat} (hi:i < objs.length) (xp:i < (ij objs n (putAt (aF objs n).aW k v)).length) :
  (ij objs n (putAt (aF objs n).aW k v))[i].aW.length=objs[i].aW.length/\∀ j (h1:j < objs[i].aW.length) (h2:j < (ij objs n (putAt (aF objs n).aW k v))[i].aW.length),(ij objs n (putAt (aF objs n).aW k v))[i].aW[j]=if (i:Int)=n-1/\(j:Int)=k then v else objs[i].aW[j]:=by
 have e:(ij objs n (putAt (aF objs n).aW k v))[i]=if (n-1).toNat=i then {aF objs n with aW:=putAt (aF objs n).aW k v}else objs[i]:=by
  simp only[ij,List.getElem_set]
 by_cases hc:(n-1).toNat=i
 ·rw[if_pos hc]at e;have eo:aF objs n=objs[i]:=by unfold aF;rw[hc,S_,w_ hi];rfl
  have el:(ij objs n (putAt (aF objs n).aW k v))[i].aW=objs[i].aW.set k.toNat v:=by rw[e,eo];rfl
  refine⟨by rw[el];simp,λj h1 h2=>?_⟩;generalize (ij objs n (putAt (aF objs n).aW k v))[i].aW=L at el h2 ⊢;subst el;simp only[List.getElem_set];by_cases hj:k.toNat=j
  ·rw[if_pos hj,if_pos (by omega)]
  ·rw[if_neg hj,if_neg (by omega)]
 ·rw[if_neg hc]at e;exact⟨by rw[e],λj h1 h2=>by simp only[e];rw[if_neg (by omega)]⟩
theorem aea (v:Value) (n:Nat) (h:Heap) (hB:Bytes h v n) (hn:n<=140737488355328) (hy:TG h):Pure prog 6 [v] h (.bool true):=by
 have hB0:=hB;obtain⟨p,c,rfl,hc,_⟩:=hB;refine jh au func6 ac2 ok6 rfl ?_;conv=>whnf
 apply ax<;>intro g;all_goals conv=>whnf
 ·exact⟨rfl,z_ h⟩
 refine aC (M9 _ n h hB0 (by omega) hy) ?_;rintro v0 h0 ⟨l0,hA⟩;refine UF.elim hA λpc n1 cc pm n2 cm u po co pf cf pw cw M B0 hv hu o0 sm=>?_;subst hv;have hM0:=o0.read sm.small;have hQ0:=o0.adz sm.small.ads;obtain⟨R,EF⟩:=UN u M;have ti:=EF.ads;unfold nI ay at o0 hM0 hQ0 ⊢;conv=>whnf
 refine aC (Rr _ _ u M h0 hu hM0 hQ0 R EF) ?_;rintro v1 h1 ⟨l1,m1,B1,rfl,o1,n1,f1⟩;obtain⟨ad5,do_,ad4,df,ad6,adZ,rfl⟩:=o1.nI;unfold nI ay at o1 ⊢;conv=>whnf
 refine aC (aaH _ _ u M h1 (hu.le l1) (hQ0.le l1)) ?_;rintro v2 h2 ⟨l2,hT⟩;have HL:=y_ l1 l2;rcases hT with rfl|⟨f,p1,c1,p2,c2,tp,rfl,y1,y2⟩;all_goals conv=>whnf
 all_goals refine aee hu hM0 hQ0 HL EF (λh3 l3=>(o1.aJ (cR.of_le (y_ l2 l3) _)).adz ti) (λx h3 l3 ad2=>?_)
 all_goals conv=>whnf
 all_goals refine aK ad2 ?_
 all_goals conv=>whnf
 all_goals have l13:=y_ HL l3
 all_goals have l03:=y_ l0 l13
 ·skip
  refine aee hu hM0 hQ0 l13 EF (λh4 l4=>(o1.aJ (cR.of_le (y_ (y_ l2 l3) l4) _)).adz ti) (λx h4 l4 ad2=>?_);conv=>whnf
  refine aK ad2 ?_;conv=>whnf
  exact⟨rfl,y_ l0 (y_ l13 l4)⟩
 have oq:=(o1.aJ (cR.of_le (y_ l2 l3) _)).adz ti;have hRs:=EF.1 ⟨tp.fit.unit,tp.fit.ok⟩;have hlen:=tp.fit.ok.len;have Eh:=tp.fit.ok.nf;have hnk:=tp.frW.2.2.2.1;have y1:=y1.le l3 λ_ _ hx=>hx;have y2:=y2.le l3 λ_ _ hx=>hx;apply aT<;>intro g1;all_goals conv=>whnf
 ·skip
  refine aee hu hM0 hQ0 l13 EF (λh4 l4=>(o1.aJ (cR.of_le (y_ (y_ l2 l3) l4) _)).adz ti) (λx h4 l4 ad2=>?_);conv=>whnf
  refine aK ad2 ?_;conv=>whnf
  exact⟨rfl,y_ l0 (y_ l13 l4)⟩
 obtain⟨rest,a,b,e1,hva,hra,tZ,e3⟩:=tp.put g1;rw[<-hRs]at e3;rw[e1]at y2 ⊢;have hl2:(rest++[a,b]).length=rest.length+2:=by simp
 obtain⟨b1,of1,xs,s9,r1,a1⟩:=y2.get (i:=rest.length) (by simp);obtain⟨b2,of2,ys,wA,r2,a2⟩:=y2.get (i:=rest.length+1) (by simp);rw[show(rest++[a,b])[rest.length]'(by simp)=a by simp]at a1;rw[show(rest++[a,b])[rest.length+1]'(by simp)=b by simp]at a2;subst a1;subst a2;rw[hl2];rw[s9]at wA;simp only[v_,Addr.mk.injEq,and_true]at wA;obtain⟨rfl,rfl⟩:=wA;have z1:=aE r1 (i:=1) rfl;have hz1:(((rest.length+2:Nat):Int)-2).toNat=rest.length:=by omega
 have Up:(((rest.length+2:Nat):Int)-1).toNat=rest.length+1:=by omega
 have ur:rest.length<=4:=by rw[e1]at hnk;simp at hnk;omega
 obtain⟨vo,vf,vs,ad0,x1,x2,x3⟩:=oq;simp only[ay,List.cons.injEq,and_true]at ad0;obtain⟨rfl,rfl,rfl⟩:=ad0;obtain⟨vo,vf,vs,ad0,w1,w2,w3⟩:=hQ0.le l13;simp only[ay,List.cons.injEq,and_true]at ad0;obtain⟨rfl,rfl,rfl⟩:=ad0;have hRb:=ti.objs;unfold BH at hRb;rcases e3 with ⟨hz,eo,e3⟩|⟨hz,eo⟩
 ·have x1':Row 2 x8 h3 (.slice ad5 R.objs.length do_) M.objs:=by
   generalize hl:R.objs.length=n at x1 ⊢;rw[<-eo];exact x1
  have ad1:=E8 _ _ M.objs h3 x1' w1;rcases e3 with ⟨f0,g0,gs,e4⟩|⟨f2,e3⟩
  ·skip
   have hRl:R.ag.length=gs.length+1:=by rw[e4];simp
   have hRb:=ti.ag;unfold BH at hRb;obtain⟨b4,of4,vs4,hq4,r4,a4⟩:=x2.get (i:=gs.length) (by omega);rw[aeg e4 (by omega)]at a4;obtain⟨v6,v7,rfl,y4,ad7⟩:=a4;try simp only at y4 ad7
   obtain⟨pl4,cl4,rfl,_,_⟩:=y4.len;try simp only at r4
   have hkz:((R.ag.length:Int)-1).toNat=gs.length:=by omega
   obtain⟨pg,cg,rfl,_,_⟩:=ad7.len;have z4:=aE r4 (i:=3) rfl;repeat' ((first|refine ah ?_|refine aq ?_|refine aG s9 ?_|refine ld (by rw[hz1];exact z1) ?_|apply And.intro|exact trivial)<;>conv=>whnf)
   refine cx ?_;conv=>whnf
   refine aK ad1 ?_;conv=>whnf
   refine bH ?_;conv=>whnf
   refine cx ?_;conv=>whnf
   repeat' ((first|refine ah ?_|refine aq ?_|refine aG hq4 ?_|refine ld (by rw[hkz];exact z4) ?_|apply And.intro|exact trivial)<;>conv=>whnf)
   refine ec [.bool true,.int .i64 2] rfl (λb h4 hb e l4 g4=>?_);conv=>whnf
   refine aK (vZ _ _ [⟨true,2⟩] h4 (ad7.le l4 λ_ _ hx=>hx) (row_one g4)) ?_;conv=>whnf
   exact⟨rfl,y_ l03 l4⟩
  ·have hv:∀ w,(Go.binOp .eql 31 (.agg #[.bool R.out.ref,.int .i64 R.out.n]) (.agg #[.bool true,.int .i64 2])).run prog w=.ok (.bool true) w:=λw=>by
    have:=Na R.out ⟨true,2⟩ w;rw[e3]at this ⊢;simpa using this
   repeat' ((first|refine ah ?_|refine aq ?_|refine aG s9 ?_|refine ld (by rw[hz1];exact z1) ?_|apply And.intro|exact trivial)<;>conv=>whnf)
   refine cx ?_;conv=>whnf
   refine aK ad1 ?_;conv=>whnf
   refine cx ?_;conv=>whnf
   refine Is rfl rfl (λw=>by simp[eqGuard]) (λw=>hv w) ?_;conv=>whnf
   exact⟨rfl,l03⟩
 ·have hn:=hva.1 hra;have hP:∀ i (hi:i < M.objs.length) (xp:i < R.objs.length),R.objs[i].aW.length=M.objs[i].aW.length/\∀ j (h1:j < M.objs[i].aW.length) (h2:j < R.objs[i].aW.length),R.objs[i].aW[j]=if (i:Int)=a.n-1/\(j:Int)=(hY u f).b then b else M.objs[i].aW[j]:=λi hi xp=>by
   have:=aek (v:=b) hz hn.2 tZ hi (by rw[<-eo];exact xp);simp only[<-eo]at this;exact this
  have hRl:R.objs.length=M.objs.length:=by rw[eo];simp[ij]
  repeat' ((first|refine ah ?_|refine aq ?_|refine aG s9 ?_|refine ld (by rw[hz1];exact z1) ?_|apply And.intro|exact trivial)<;>conv=>whnf)
  refine bH ?_;conv=>whnf
  refine fh [4,5,6,7,9,10,12] [4,5,6,7] (λi:Nat=>i<=M.objs.length) (λi=>M.objs.length-i)
   (λi=>([.l 4 0,.l 5 0,.l 6 0,.l 7 0,.v (.int .i64 (rest.length+2:Nat)),.v (.int .i64 a.n),.v (.int .i64 i)],[some [.slice po M.objs.length co,.slice pf M.ag.length cf,.slice pw M.said.length cw,.int .i64 M.steps,.int .i64 M.fin,.bool M.out.ref,.int .i64 M.out.n],some [.slice ad5 R.objs.length do_,.slice ad4 R.ag.length df,.slice ad6 R.said.length adZ,.int .i64 R.steps,.int .i64 R.fin,.bool R.out.ref,.int .i64 R.out.n],some [.int .i64 f.U,.int .i64 f.pc,.slice p1 f.locals.length c1,.slice p2 (rest.length+2) c2],some [.int .i64 (hY u f).kind,.int .i64 (hY u f).a,.int .i64 (hY u f).b]],h3)) 0 (Nat.zero_le _) rfl ?_
  rintro i hi;simp only at hi ⊢;conv=>whnf
  apply ax<;>intro g;all_goals conv=>whnf
  ·have bV:i < M.objs.length:=by omega
   have wD:i < R.objs.length:=by omega
   obtain⟨Cz,hvg⟩:=hP i bV wD;obtain⟨b3,of3,vs3,hq3,r3,a3⟩:=w1.get bV;obtain⟨b4,of4,vs4,hq4,r4,a4⟩:=x1.get wD;have hO:=tp.fit.ok.objs _ (x_ bV);obtain⟨v3,rfl,y3⟩:=a3;obtain⟨v4,rfl,y4⟩:=a4;obtain⟨pm3,cm3,rfl,_,ZP⟩:=y3.len;obtain⟨pm4,cm4,rfl,_,_⟩:=y4.len;have z3:=aE r3 (i:=1) rfl;have z4:=aE r4 (i:=1) rfl;refine fh [4,5,6,7,9,10,12,13] [4,5,6,7] (λk:Nat=>k<=M.objs[i].aW.length) (λk=>M.objs[i].aW.length-k)
    (λk=>([.l 4 0,.l 5 0,.l 6 0,.l 7 0,.v (.int .i64 (rest.length+2:Nat)),.v (.int .i64 a.n),.v (.int .i64 i),.v (.int .i64 k)],[some [.slice po M.objs.length co,.slice pf M.ag.length cf,.slice pw M.said.length cw,.int .i64 M.steps,.int .i64 M.fin,.bool M.out.ref,.int .i64 M.out.n],some [.slice ad5 R.objs.length do_,.slice ad4 R.ag.length df,.slice ad6 R.said.length adZ,.int .i64 R.steps,.int .i64 R.fin,.bool R.out.ref,.int .i64 R.out.n],some [.int .i64 f.U,.int .i64 f.pc,.slice p1 f.locals.length c1,.slice p2 (rest.length+2) c2],some [.int .i64 (hY u f).kind,.int .i64 (hY u f).a,.int .i64 (hY u f).b]],h3)) 0 (Nat.zero_le _) rfl ?_
   rintro k hk;simp only at hk ⊢;conv=>whnf
   repeat' ((first|refine aG hq3 ?_|refine aq ?_|refine ld z3 ?_|apply And.intro|exact trivial)<;>conv=>whnf)
   apply ax<;>intro gk;all_goals conv=>whnf
   ·have GF:k < M.objs[i].aW.length:=by omega
    have NT:k < R.objs[i].aW.length:=by omega
    have Ht:=hvg k GF NT;obtain⟨b5,of5,vs5,hq5,r5,a5⟩:=y3.get GF;obtain⟨b6,of6,vs6,hq6,r6,a6⟩:=y4.get NT;subst a5;subst a6;have aeh:(R.objs[i].aW[k].ref==(if (i:Int)=a.n-1/\(k:Int)=(hY u f).b then b else M.objs[i].aW[k]).ref&&R.objs[i].aW[k].n==(if (i:Int)=a.n-1/\(k:Int)=(hY u f).b then b else M.objs[i].aW[k]).n)=true:=ael.2 Ht;have hle:M.objs[i].aW.length<=140737488351232:=ZP;by_cases hc:(i:Int)=a.n-1/\(k:Int)=(hY u f).b
    ·rw[if_pos hc]at aeh;repeat' ((first|refine aG hq3 ?_|refine aq ?_|refine ld z3 ?_|refine aG hq5 ?_|refine dJ r5 ?_|refine ah ?_|refine cx ?_|apply And.intro|exact trivial)<;>conv=>whnf)
     repeat' ((first|refine aG s9 ?_|refine aq ?_|refine dJ (by rw[Up];exact r2) ?_|refine ah ?_|apply And.intro|exact trivial)<;>conv=>whnf)
     repeat' ((first|refine aG hq4 ?_|refine aq ?_|refine ld z4 ?_|apply And.intro|exact trivial)<;>conv=>whnf)
     repeat' ((first|refine aG hq6 ?_|refine aq ?_|refine dJ r6 ?_|apply And.intro|exact trivial)<;>conv=>whnf)
     refine Is rfl rfl (λw=>by simp[eqGuard]) (λw=>aeb R.objs[i].aW[k] b false (by rw[aeh];rfl) w) ?_;conv=>whnf
     refine ah ?_;conv=>whnf
     exact dm (k+1) (by omega) (by omega) rfl
    ·rw[if_neg hc]at aeh;repeat' ((first|refine aG hq3 ?_|refine aq ?_|refine ld z3 ?_|refine aG hq5 ?_|refine dJ r5 ?_|refine ah ?_|apply And.intro|exact trivial)<;>conv=>whnf)
     apply ax<;>intro c1;all_goals conv=>whnf
     ·refine bH ?_;conv=>whnf
      repeat' ((first|refine aG hq4 ?_|refine aq ?_|refine ld z4 ?_|apply And.intro|exact trivial)<;>conv=>whnf)
      repeat' ((first|refine aG hq6 ?_|refine aq ?_|refine dJ r6 ?_|apply And.intro|exact trivial)<;>conv=>whnf)
      refine Is rfl rfl (λw=>by simp[eqGuard]) (λw=>aeb R.objs[i].aW[k] M.objs[i].aW[k] false (by rw[aeh];rfl) w) ?_;conv=>whnf
      refine ah ?_;conv=>whnf
      exact dm (k+1) (by omega) (by omega) rfl
     ·skip
      repeat' ((first|refine aG hq4 ?_|refine aq ?_|refine ld z4 ?_|apply And.intro|exact trivial)<;>conv=>whnf)
      repeat' ((first|refine aG hq6 ?_|refine aq ?_|refine dJ r6 ?_|apply And.intro|exact trivial)<;>conv=>whnf)
      refine Is rfl rfl (λw=>by simp[eqGuard]) (λw=>aeb R.objs[i].aW[k] M.objs[i].aW[k] false (by rw[aeh];rfl) w) ?_;conv=>whnf
      refine ah ?_;conv=>whnf
      exact dm (k+1) (by omega) (by omega) rfl
   ·refine ah ?_;conv=>whnf
    exact dm (i+1) (by omega) (by omega) rfl
  ·exact⟨by rw[decide_eq_true (by omega)],l03⟩
theorem FnStepPut_c (v:Value) (n:Nat) (h:Heap) (hB:Bytes h v n) (hn:n<=140737488355328):Pure prog 6 [v] h (.bool true):=by
 obtain⟨hs,hl,hb,hy⟩:=Rn hB;exact aaC hl (aea v n hs hb hn hy)
end Go.Proofs
