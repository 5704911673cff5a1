/- Lemmas. -/
import Derived.Calls
import Derived.KernelRfl
import Derived.Laws.Sem
import Derived.Deep.Quiet
import Derived.Scope
import Derived.Orders
import Derived.Below
import Derived.Laws.StructEq
import Derived.Laws.Cover3
import Derived.Defers
import Derived.Recover
import Derived.Test.YtcenghjfipkgmaaGreatProg
import Derived.Test.YtcenghjfipkgmaaGreatMb11
set_option linter.unusedSimpArgs false
set_option linter.unusedVariables false
namespace Go.Vc
set_option linter.constructorNameAsVariable false
set_option linter.unusedSimpArgs false
set_option linter.unusedVariables false
section
variable {P:Program} {S:oD} (hS:dQ P S)
include hS
end
variable {D:List Deferred} {n:Nat} {h0:Heap} {w0:World} {β:Nat->Nat} {e:Env} {h:Heap} {a:Act} {w:World}
variable {P:Program} {S:oD} {o:Oper} {K:Slot->Bx->Heap->Prop} {E:List PanicEntry->Heap->Prop}
set_option linter.constructorNameAsVariable false
set_option linter.unusedVariables false
variable {D:List Deferred} {P:Program} {S:oD} {n:Nat} {h0:Heap} {w0:World} {β:Nat->Nat} {e:Env} {h:Heap} {a:Act} {w:World}
set_option linter.unusedSimpArgs false
variable {D:List Deferred} {P:Program} {S:oD} {F:Fs} {o:Oper} {e:Env} {h:Heap} {K:Slot->Bx->Heap->Prop} {E:List PanicEntry->Heap->Prop}
open Go.RowKit
variable {P:Program} {f:FuncId} {args:List Value} {h:Heap} {K:Value->Heap->Prop} {E:List PanicEntry->Heap->Prop} {R:Value->Heap->Prop} {w:World}
variable {P:Program} {h:Heap} {e:Env} {Kr:Value->Heap->Prop} {dst:Option Nat} {ty t kt et:TypeId} {pos:String} {af:Array Edge} {g:Option (Nat × Bool)} {m k x:Operand} {b:Nat} {n:Int} {l:List (Int × Value)} {v:Value}
variable {P:Program}
variable {h:Heap} {e:Env} {dst:Option Nat} {t u ty:TypeId} {x y:Operand} {pos:String} {af:Array Edge} {g:Option (Nat × Bool)}
variable {P:Program} {S:oD} {h:Heap} {e:Env} {dst:Option Nat} {t u el ty:TypeId} {x y:Operand} {pos:String} {af:Array Edge} {g:Option (Nat × Bool)}
end Go.Vc
namespace Go.Proofs
open Go.Vc Go.Proofs.Tryz
def Tryz.ac2:Fs:={L:=[3,4,5,6,7,11],LL:=[30,31,32,42,47,51,52,53,57,58,60,62,98,101,107,108,110,120,126,131,139],cq:=[(6,[0,1,2,3,4,5,6,7,8,9,10,11,12,13,14,15,16,17,18,19,20]),(7,[0,1,2,3,4,5]),(8,[0,3,5,1,2,4,6,7,8,9,10,11,12,13]),(13,[0,3,1,2,4,5,6,7,8,9,12,14,15,16,22,10,11,13,23,17,18,19,20,21,24,25,26,27,28,29,30,31,32,33,35,37,34,36,38,39,40,41,42,43,44,45,46])]}
theorem Tryz.ok8:aL ac2 Tryz.f8 1=true:=by kernel_rfl
def Tryz.F19:Fs:={L:=[3]}
theorem Tryz.aen:aL F19 Tryz.f19 3=true:=by kernel_rfl
set_option maxRecDepth 100000
set_option maxHeartbeats 4000000
set_option maxHeartbeats 40000000
instance (x:Sx):Decidable x.bad:=inferInstanceAs (Decidable (_\/_))
variable {α:Type} {sz:Nat} {R:Heap->List Value->α->Prop} {h0 h h':Heap} {b c:Nat} {A:List α}
section
variable {gB g g':Heap} {l1 l2:List Int} {p1 p2:Option Addr} {c1 c2:Nat} {B1 B2:List Nat} {bb:Nat} {vb:Value} {q0 q:Int}
end
open Go.Vc Go.Proofs.Tryz
set_option maxRecDepth 100000
set_option maxHeartbeats 4000000
section
variable {gB g g':Heap} {code:List ez} {pc:Option Addr} {cc:Nat} {Bc:List Nat} {el:List Int} {pe:Option Addr} {ce:Nat} {Be:List Nat} {ks:List nK} {kv:Value} {Bk:List Nat}
end
open Go.Vc Go.Proofs.Tryz
set_option maxRecDepth 100000
set_option maxHeartbeats 4000000
section
variable {g0 g g1:Heap} {cp:Option Addr} {cc:Nat} {cs:List eD} {bm cm:Nat} {aS:List (List Value)} {A:List cL} {k bb:Nat} {vb:Value} {q0 q:Int} {K:Heap->Prop}
end
open Go.Vc Go.Proofs.Tryz
set_option maxRecDepth 100000
set_option maxHeartbeats 4000000
section
variable {g2 g3:Heap} {bb:Nat} {R:bM} {po pf pw:Option Addr} {co cf cw:Nat} {B1 B2 B3:List Nat}
end
open Go.Vc Go.Proofs.Tryz
set_option maxRecDepth 100000
set_option maxHeartbeats 4000000
section
variable {h:Heap} {bu bm b5 b6:Nat} {p q po pf ps:Option Addr} {cc d co cf cs:Nat} {u:aO} {M:bM}
end
open Go.Vc Go.Proofs.Tryz
set_option maxRecDepth 100000
set_option maxHeartbeats 4000000
section
variable {u u':aO}
end
open Go.Vc Go.Proofs.Tryz
set_option maxRecDepth 100000
set_option maxHeartbeats 4000000
section
variable {u u':aO}
end
open Go.Vc Go.Proofs.Tryz
set_option maxRecDepth 100000
set_option maxHeartbeats 4000000
theorem aef {u:aO} {M R:bM} {us mc xc:List Value} {h0 h2:Heap} {K:Value->Heap->Prop} {E:List PanicEntry->Heap->Prop} (hu:dG h0 us u) (hM:wI h0 mc M) (hQ:xg h0 mc M) (l:h0.le h2) (EF:z5 u M R) (oq:∀ h3,h2.le h3->xg h3 xc R) (hK:∀ x h3,h2.le h3->Pure prog 13 [.agg ⟨xc⟩,.agg ⟨x⟩] h3 (.bool true)->K (.agg ⟨x⟩) h3):iF prog 14 [.agg ⟨us⟩,.agg ⟨mc⟩] h2 K E :=
 cX (Rt _ _ u M h2 (hu.le l) (hM.le l) (hQ.le l) R EF) λv h3 hh=>by
  obtain⟨l3,ad2,B3,rfl,o3,n3,f3⟩:=hh;exact⟨l3,hK _ _ l3 (aaB _ _ R h3 (oq h3 l3) (o3.adz EF.ads))⟩
theorem aec {cs:List eD} (ok:cI cs) {a b c:Int} (ha:a < 8+cs.length) (h1:iy cs a b=true) (h2:iy cs b c=true):iy cs a c=true:=by
 by_cases Qt:a=b
 ·subst Qt;exact h2
 by_cases hbc:b=c
 ·subst hbc;exact h1
 by_cases hc:a=c\/c=0
 ·unfold iy;rw[if_pos hc]
 unfold iy at h1 h2 ⊢;rw[if_neg (by omega)]at h2;split at h2
 ·rw[if_neg (by omega)]at h1;split at h1
  ·omega
  ·rw[if_pos (by omega)]at h1;cases h1
 split at h2
 ·cases h2
 split at h2
 ·have h2:c=8:=of_decide_eq_true h2;rw[if_neg (by omega)]at h1;split at h1
  ·rw[if_neg (by omega),if_pos (by assumption)];exact decide_eq_true (by omega)
  ·rw[if_pos (by omega)]at h1;cases h1
 ·rw[if_neg (by omega)]at h1;split at h1
  ·rw[if_neg (by omega),if_pos (by assumption)];exact decide_eq_true (by omega)
  split at h1
  ·cases h1
  split at h1
  ·have h1:b=8:=of_decide_eq_true h1;rw[FZ ok _ (Nat.lt_succ_self _) (by have:=ok.1;omega) (by omega)]at h2;cases h2
  ·rw[if_neg (by omega),if_neg (by omega),if_neg (by omega),if_neg (by omega)];exact Ei ok _ (Nat.lt_succ_self _) (by omega) h1 h2
theorem aei {cs:List eD} {a b:Int} (h:iy cs a b=true) (hb:2<=b):2<=a:=by
 unfold iy at h;repeat' split at h
 all_goals first
  | omega
  | cases h
theorem ael {objs:List Ob} {v:Vl} (h:2<=Iv objs v):v.ref=true:=by
 cases hv:v.ref
 ·unfold Iv at h;rw[if_pos hv]at h;omega
 ·rfl
def vin (u:aO) (M:bM) (v:Vl) (t:Int):Prop:=kE M.objs.length v/\iy u.J (Iv M.objs v) t=true
theorem vin.lead {u:aO} {M:bM} {v:Vl} {t:Int} (h:vin u M v t) (ht:2<=t):v.ref=true:=ael (aei h.2 ht)
theorem vin.up {u:aO} {M:bM} {v:Vl} {c:Int} (hT:cz u) (hM:oh u M) (hc:0 < c) (h:vin u M v (8+c)) (hn:v.n≠0):up u.J (aF M.objs v.n).cls c=true:=by
 have hr:=h.lead (by omega);have h2:=h.2;have hp:=h.1.1 hr;have hcr:=(Iw hT hM (k:=v.n) (by omega) hp.2).1;have e:Iv M.objs v=typeOf (aF M.objs v.n).cls:=by unfold Iv;rw[if_neg (by simp[hr]),if_neg hn]
 rw[e]at h2;generalize (aF M.objs v.n).cls=k at h2 hcr ⊢;have ht:∀ k:Int,k≠-1->k≠-2->typeOf k=8+k:=λk h1 h3=>by unfold typeOf;rw[if_neg h1,if_neg h3]
 by_cases h1:k = -1
 ·subst h1;unfold typeOf iy at h2;simp at h2;omega
 by_cases h3:k = -2
 ·subst h3;unfold typeOf iy at h2;simp at h2;omega
 rw[ht k h1 h3]at h2;unfold iy at h2;split at h2
 ·obtain rfl:k=c:=by omega
  unfold Go.Proofs.up;rw[II];simp;omega
 ·split at h2
  ·simp at h2;omega
  ·split at h2
   ·cases h2
   ·split at h2
    ·simp at h2;omega
    ·rw[show 8+k-8=k by omega,show 8+c-8=c by omega]at h2;exact h2
theorem ad9 {cs:List eD}:∀ {l r:List Int},l.length=r.length->jn cs l r=true->∀ i (h1:i < l.length) (h2:i < r.length),iy cs l[i] r[i]=true
 | [],[],_,_,i,h1,_=>by simp at h1
 | a::l,b::r,hl,h,i,h1,h2=>by
  rw[jn,Bool.and_eq_true]at h;cases i with
  | zero=>exact h.1
  | succ i=>exact ad9 (by simpa using hl) h.2 i (by simpa using h1) (by simpa using h2)
theorem tC.pop {u:aO} {M:bM} {f:bQ} (t:tC u M f) {types:List Int} {r:dY} (h:iA u.J (z9 u f) types=some r):∃ rest aR,f.stack=rest++aR/\aR.length=types.length/\r.stack.length=rest.length/\∀ i (h1:i < aR.length) (h2:i < types.length),vin u M aR[i] types[i]:=by
 obtain⟨_,hl,ha,_⟩:=t.step;unfold iA at h;split at h
 ·rename_i hp;simp only[v_]at h;unfold vI at hp;simp only[Bool.and_eq_true,decide_eq_true_eq]at hp;obtain⟨xK,CM⟩:=hp;refine⟨f.stack.take (f.stack.length-types.length),f.stack.drop (f.stack.length-types.length),(List.take_append_drop _ _).symm,by simp;omega,by rw[<-h];simp;omega,λi h1 h2=>?_⟩;have F3:f.stack.length-types.length+i < f.stack.length:=by simp at h1;omega
  have hg:=ad9 (by simp;omega) CM i (by simp;omega) h2;simp only[List.getElem_drop]at hg ⊢;have hw:=t.frW.2.2.2.2.2 _ (x_ F3);refine⟨hw,aec t.fit.unit.1 (Nr t.fit.unit t.fit.ok hw).2 (ha.2 _ F3 (by omega)) ?_⟩;simp only[hl];exact hg
 ·cases h
theorem aej {u:aO} {x:ez} {rest aR:List Vl} {ws:List Int} (hs:di u x=some ws) (hl:ws.length=aR.length) (ho:jD ws aR=true):ee u x (rest++aR)=some (aR,rest):=by
 unfold ee;rw[hs];simp[hl,ho]
theorem aed {r:Option dY} {t:Int} {s:dY} (h:jo r t=some s):∃ q,r=some q/\q.stack.length < 4:=by
 cases r with
 | none=>cases h
 | some q =>
  refine⟨q,rfl,?_⟩;unfold jo at h;simp only at h;split at h
  ·cases h
  ·omega
theorem tC.ins {u:aO} {M:bM} {f:bQ} (t:tC u M f):eU u (aV u f.U) (hY u f):=by
 have w:=t.frW;have gE:f.pc.toNat < (aV u f.U).code.length:=by have:=t.step.1;have:=w.2.1.1;omega
 have e:hY u f=(aV u f.U).code[f.pc.toNat]:=by unfold hY;rw[S_,w_ gE];rfl
 rw[e];exact(t.fit.unit.aV w.1).2.1.2.2.2.1 _ (x_ gE)
theorem aee {u:aO} {c n:Int} {l l':List bQ} (h:wJ u c n l=some l'):l'.length<=l.length:=by
 obtain⟨_,_,_,_,rfl,_,rfl⟩:=rG h;simp
theorem tC.send {u:aO} {M:bM} {f:bQ} (t:tC u M f) (hk:(hY u f).kind=21):∃ rest v args,f.stack=rest++v::args/\args.length=(aV u (find u (hY u f).a (hY u f).b)).args.length/\(0<=find u (hY u f).a (hY u f).b/\find u (hY u f).a (hY u f).b < u.methods.length)/\(0<=(hY u f).a/\(hY u f).a < u.J.length)/\kE M.objs.length v/\v.ref=true /\
  ((v.n=0/\(fB u M).ag.length<=M.ag.length)\/(0 < v.n/\0<=(aF M.objs v.n).cls/\(aF M.objs v.n).cls < u.J.length/\(M.ag.length < 4->(fB u M).ag=M.ag.dropLast++[{f with stack:=rest}]++[gO u (find u (aF M.objs v.n).cls (hY u f).b) (v::args)]))):=by
 obtain⟨AW,hl,ha,nx,hs⟩:=t.step;have Qd:=(z8 t.ins).2 hk;have hcT:zB u (hY u f) (z9 u f)=some nx:=by
  unfold stepT at hs;rw[if_neg (by omega),if_pos (by omega)]at hs;exact hs
 unfold zB at hcT;simp only[hk,if_true]at hcT;split at hcT
 ·cases hcT
 rename_i HC;have HC:0<=find u (hY u f).a (hY u f).b:=by omega
 obtain⟨r,hr,h4⟩:=aed hcT;obtain⟨rest,aR,h1,h2,h3,h5⟩:=t.pop hr;obtain⟨k1,k2,k3⟩:=vr t.fit.unit.1 (s:=(hY u f).b) ((hY u f).a.toNat+1) (c:=(hY u f).a) (by omega) Qd.2 HC;have lI:=(t.fit.unit.aV ⟨HC,k3⟩).1.1;have hc0:=wL t.fit.unit.1 _ (Nat.lt_succ_self _) Qd.2 k1;have hca:=Zh t.fit.unit.1 Qd.2 k1;have ha0:0 < (hY u f).a:=by omega
 match aR,h1,h2,h5 with
 | [],h1,h2,h5=>simp at h2
 | v::args,h1,h2,h5 =>
  have hv:=h5 0 (by simp) (by simp);simp only[List.getElem_cons_zero,List.singleton_append]at hv;have hra:=hv.lead (by omega);have hn:=hv.1.1 hra;have hla:args.length=(aV u (find u (hY u f).a (hY u f).b)).args.length:=by simpa using h2
  have ht:ee u (hY u f) f.stack=some (v::args,rest):=by
   rw[h1];refine aej (ws:=2::List.replicate (aV u (find u (hY u f).a (hY u f).b)).args.length 0) (by unfold di;simp[hk,HC]) (by simp[hla]) ?_;rw[jD];simp[hra,CP]
  have hd:=t.do_ ht;rw[if_pos (by omega)]at hd;have hc:∀ X:bM,X.objs=M.objs->gW u (hY u f) (v::args) M.ag.dropLast X=match eE M.objs v.n (up u.J (aF M.objs v.n).cls (hY u f).a)with
    | .error e=>.error e
    | .ok o=>jA u (find u o.cls (hY u f).b) (v::args) X:=λX hX=>by
   unfold gW;simp[hk,hX];rfl
  rw[hc {M with ag:=M.ag.dropLast++[{f with stack:=rest}]} rfl]at hd;refine⟨rest,v,args,h1,hla,⟨HC,k3⟩,Qd,hv.1,hra,?_⟩;by_cases hz:v.n=0
  ·rw[gK hz]at hd;refine .inl ⟨hz,?_⟩;rw[t.eq,hd];simp only[if_neg (show ¬(2:Int)=0 by omega)];unfold cK;split
   ·rename_i l tn;have:=aee tn;simpa using this
   ·simp
  ·have Ac:=hv.up t.fit.unit t.fit.ok ha0 hz;rw[gR (by omega) Ac]at hd;have hcr:=Iw t.fit.unit t.fit.ok (k:=v.n) (by omega) hn.2;refine .inr ⟨by omega,lO Ac,hcr.2,λh4=>?_⟩;rw[t.eq,hd];unfold jA;have gz:=congrArg List.length t.ag;simp only[U_,List.length_singleton]at gz;simp only[U_,List.length_singleton];rw[if_neg (by omega)]
theorem aeg {α:Type} {sz:Nat} {R:Heap->List Value->α->Prop} {h:Heap} {p:Option Addr} {n c:Nat} {l:List α} (hr:Row sz R h (.slice p n c) l):l.length<=c:=by
 obtain⟨_,_,he,hc,_⟩:=hr.len;simp only[Z_]at he;omega
theorem aek {α:Type} {l k:List α} {x:α} (h:l=k++[x]) (h1:k.length < l.length):l[k.length]=x:=by
 subst h;simp
theorem aeb (us:List Value) (u:aO) (c s:Int) (h:Heap) (hu:dG h us u) (hT:cz u) (hc:0<=c/\c < u.J.length):Pure prog 19 [.agg ⟨us⟩,.int .i64 c,.int .i64 s] h (.int .i64 (find u c s)):=by
 have k1:=KW us u h hu;have k3:=yQ us u c s h hu hT.1 (by omega) hc.2;rw[fk hT]at k1;obtain⟨p,cc,q,d,rfl,hcs,fM,ji,hl2⟩:=hu.form;have k2:=oL p u.J.length cc c h;rw[fk hc]at k2;refine iC au func19 F19 aen rfl ?_;conv=>whnf
 refine aj k1 ?_;conv=>whnf
 refine aj k2 ?_;conv=>whnf
 refine aj k3 ?_;conv=>whnf
 exact⟨rfl,rfl⟩
theorem aem {α:Type} {sz m:Nat} {R:Heap->List Value->α->Prop} {h:Heap} {p:Option Addr} {n c:Nat} {l:List α} {K:Option Addr->Prop} (hr:Row sz R h (.slice p n c) l) (hm:m < l.length) (hk:∀ p',Row sz R h (.slice p' (n-m) (c-m)) (l.drop m)->K p'):Sub p c m sz K:=by
 refine sub λoa h1 h2=>hk oa ?_;obtain⟨h0,p',c',e,hc,h3⟩:=hr;simp only[Z_]at e;obtain⟨rfl,rfl,rfl⟩:=e;refine⟨by simp;omega,oa,c-m,by simp,by simp;omega,?_⟩;rcases h3 with rfl|⟨b,off,rfl,hx⟩
 ·simp at hm
 ·have e:=h1 (by omega);have:(Option.map (λa=>Addr.add a (m*sz)) (some ⟨b,off,none⟩):Option Addr)=some ⟨b,off+m*sz,none⟩:=by
   simp only[Option.map_some,Addr.add];by_cases hz:m*sz=0
   ·simp[hz]
   ·rw[if_neg hz]
  rw[this]at e;refine .inr ⟨b,off+m*sz,e,λi x hi=>?_⟩;obtain⟨vs,a1,a2⟩:=hx (m+i) x (by rw[List.getElem?_drop]at hi;exact hi);exact⟨vs,by rw[show off+m*sz+i*sz=off+(m+i)*sz by rw[Nat.add_mul];omega];exact a1,a2⟩
theorem aeh {m:Nat} {h:Heap} {p:Option Addr} {n c:Nat} {l args:List Vl} {v:Vl} {K:Option Addr->Prop} (hr:Row 2 G7 h (.slice p n c) l) (hd:l.drop m=v::args) (hk:∀ p' b of,p'=some ⟨b,of,none⟩->rd h b (of+1)=some (.int .i64 v.n)->Row 2 G7 h (.slice p' (n-m) (c-m)) (v::args)->K p'):Sub p c m 2 K :=
 aem hr (by have:=congrArg List.length hd;simp at this;omega) λp' y=>by
  rw[hd]at y;obtain⟨b,of,vs,hq,r,a⟩:=y.get (i:=0) (by simp);subst a;have z:=aE r (i:=1) rfl;exact hk p' b of hq (by simpa using z) y
theorem aea (v:Value) (n:Nat) (h:Heap) (hB:Bytes h v n) (hn:n<=140737488355328) (hy:TG h):Pure prog 8 [v] h (.bool true):=by
 have hB0:=hB;obtain⟨p,c,rfl,hc,_⟩:=hB;refine jh au func8 ac2 ok8 rfl ?_;conv=>whnf
 apply ax<;>intro g;all_goals conv=>whnf
 ·exact⟨rfl,z_ h⟩
 refine aC (M9 _ n h hB0 (by omega) hy) ?_;rintro v0 h0 ⟨l0,hA⟩;refine UF.elim hA λpc n1 cc pm n2 cm u po co pf cf pw cw M B0 hv hu o0 sm=>?_;subst hv;have hM0:=o0.read sm.small;have hQ0:=o0.adz sm.small.ads;obtain⟨R,EF⟩:=UN u M;have ti:=EF.ads;unfold nI ay at o0 hM0 hQ0 ⊢;conv=>whnf
 refine aC (Rr _ _ u M h0 hu hM0 hQ0 R EF) ?_;rintro v1 h1 ⟨l1,m1,B1,rfl,o1,n1,f1⟩;obtain⟨ad4,do_,ad3,df,ad5,adZ,rfl⟩:=o1.nI;unfold nI ay at o1 ⊢;conv=>whnf
 refine aC (aaH _ _ u M h1 (hu.le l1) (hQ0.le l1)) ?_;rintro v2 h2 ⟨l2,hT⟩;have HL:=y_ l1 l2;rcases hT with rfl|⟨f,p1,c1,p2,c2,tp,rfl,y1,y2⟩;all_goals conv=>whnf
 all_goals refine aef hu hM0 hQ0 HL EF (λh3 l3=>(o1.aJ (cR.of_le (y_ l2 l3) _)).adz ti) (λx h3 l3 ad1=>?_)
 all_goals conv=>whnf
 all_goals refine aK ad1 ?_
 all_goals conv=>whnf
 all_goals have l13:=y_ HL l3
 all_goals have l03:=y_ l0 l13
 ·skip
  refine aef hu hM0 hQ0 l13 EF (λh4 l4=>(o1.aJ (cR.of_le (y_ (y_ l2 l3) l4) _)).adz ti) (λx h4 l4 ad1=>?_);conv=>whnf
  refine aK ad1 ?_;conv=>whnf
  exact⟨rfl,y_ l0 (y_ l13 l4)⟩
 have oq:=(o1.aJ (cR.of_le (y_ l2 l3) _)).adz ti;have hRs:=EF.1 ⟨tp.fit.unit,tp.fit.ok⟩;have hlen:=tp.fit.ok.len;have Eh:=tp.fit.ok.nf;have hnk:=tp.frW.2.2.2.1;have y1:=y1.le l3 λ_ _ hx=>hx;have y2:=y2.le l3 λ_ _ hx=>hx;apply aT<;>intro g1;all_goals conv=>whnf
 ·skip
  refine aef hu hM0 hQ0 l13 EF (λh4 l4=>(o1.aJ (cR.of_le (y_ (y_ l2 l3) l4) _)).adz ti) (λx h4 l4 ad1=>?_);conv=>whnf
  refine aK ad1 ?_;conv=>whnf
  exact⟨rfl,y_ l0 (y_ l13 l4)⟩
 apply ax<;>intro g4;all_goals conv=>whnf
 ·skip
  refine aef hu hM0 hQ0 l13 EF (λh4 l4=>(o1.aJ (cR.of_le (y_ (y_ l2 l3) l4) _)).adz ti) (λx h4 l4 ad1=>?_);conv=>whnf
  refine aK ad1 ?_;conv=>whnf
  exact⟨rfl,y_ l0 (y_ l13 l4)⟩
 obtain⟨rest,v,args,e1,hla,Nw,lI,hva,hra,e3⟩:=tp.send g1;rw[<-hRs]at e3;have hu3:=hu.le l13;have kF:=λc hc=>aeb _ u c (hY u f).b h3 hu3 tp.fit.unit hc;have k1:=kF _ lI;obtain⟨p5,cc5,q5,d5,ad0,hcs,fM,ji,hl2⟩:=hu3.form;simp only[List.cons.injEq,and_true]at ad0;obtain⟨e5,e6⟩:=ad0;simp only[Z_]at e5 e6;obtain⟨rfl,rfl,rfl⟩:=e5;obtain⟨rfl,rfl,rfl⟩:=e6;generalize Di:find u (hY u f).a (hY u f).b=to at *;obtain⟨bm,om,vsm,hqm,k2,a3⟩:=fM.get (i:=to.toNat) (by omega);rw[yo Nw]at a3;obtain⟨pa,ca,pb,cb,Cq,cc',pd,cd,rfl,_⟩:=a3.form;have z2:=aE k2 (i:=2) rfl;have Y5:=Fi tp.fit.unit to;obtain⟨vo,vf,vs,ad0,x1,x2,x3⟩:=oq;simp only[ay,List.cons.injEq,and_true]at ad0;obtain⟨rfl,rfl,rfl⟩:=ad0;obtain⟨vo,vf,vs,ad0,w1,w2,w3⟩:=hQ0.le l13;simp only[ay,List.cons.injEq,and_true]at ad0;obtain⟨rfl,rfl,rfl⟩:=ad0;have AN:f.stack.length=rest.length+args.length+1:=by rw[e1];simp;omega
 have gF:=aeg y2;have AF:((f.stack.length:Int)-((aV u to).args.length+1)).toNat=rest.length:=by omega
 have hRb:=ti.ag;unfold BH at hRb;rcases e3 with ⟨hz,hle⟩|⟨hz,hoc,aeo,e3⟩
 ·repeat' ((first|refine aK k1 ?_|refine aG hqm ?_|refine aq ?_|refine ld z2 ?_|refine ah ?_|apply And.intro|exact trivial)<;>conv=>whnf)
  refine aeh (v:=v) (args:=args) y2 (by rw[AF,e1];simp) (λp' b of hq z y=>?_);conv=>whnf
  repeat' ((first|refine aq ?_|refine aG hq ?_|refine ld z ?_|apply And.intro|exact trivial)<;>conv=>whnf)
  refine cx ?_;conv=>whnf
  exact⟨by rw[decide_eq_true (by omega)],l03⟩
 ·have hn:=hva.1 hra;have e4:=e3 (by omega);have kF2:=kF _ ⟨hoc,aeo⟩;have pI:=congrArg List.length tp.ag;simp only[U_,List.length_singleton]at pI;have hRl:R.ag.length=(M.ag.dropLast++[{f with stack:=rest}]).length+1:=by rw[e4];simp
  have hRb:=ti.ag;unfold BH at hRb;obtain⟨b4,of4,vs4,hq4,r4,a4⟩:=x2.get (i:=(M.ag.dropLast++[{f with stack:=rest}]).length) (by omega);rw[aek e4 (by omega)]at a4;obtain⟨v6,v7,rfl,y4,ad6⟩:=a4;try simp only at y4 ad6
  obtain⟨pl4,cl4,rfl,_,_⟩:=y4.len;try simp only at r4
  have hkz:((R.ag.length:Int)-1).toNat=(M.ag.dropLast++[{f with stack:=rest}]).length:=by omega
  simp only[U_,List.length_singleton]at hRl;obtain⟨pg,cg,rfl,_,_⟩:=ad6.len;have eB:(gO u (find u (aF M.objs v.n).cls (hY u f).b) (v::args)).stack.length=0:=rfl;obtain⟨hoi,hoe⟩:=Lt hz hn.2;generalize aF M.objs v.n=o at *;obtain⟨b7,of7,vs7,hq7,r7,a7⟩:=w1.get hoi;rw[<-hoe]at a7;obtain⟨v7,rfl,_⟩:=a7;have ad8:=aE r7 (i:=0) rfl;have hk6:(((aV u to).args.length:Int)+1).toNat=args.length+1:=by omega
  have ad7:=Nm y4 (k:=(((aV u to).args.length:Int)+1).toNat) (by rw[hk6];simp[gO]);rw[show(gO u (find u o.cls (hY u f).b) (v::args)).locals.take (((aV u to).args.length:Int)+1).toNat=v::args by rw[hk6];simp[gO]]at ad7;have aep:=aeg y4;have tX:args.length+1<=(gO u (find u o.cls (hY u f).b) (v::args)).locals.length:=by simp[gO]
  repeat' ((first|refine aK k1 ?_|refine aG hqm ?_|refine aq ?_|refine ld z2 ?_|refine ah ?_|apply And.intro|exact trivial)<;>conv=>whnf)
  refine aeh (v:=v) (args:=args) y2 (by rw[AF,e1];simp) (λp' b of hq z y=>?_);conv=>whnf
  repeat' ((first|refine aq ?_|refine aG hq ?_|refine ld z ?_|apply And.intro|exact trivial)<;>conv=>whnf)
  refine bH ?_;conv=>whnf
  repeat' ((first|refine ah ?_|refine aq ?_|refine aG hq4 ?_|refine dJ (by rw[hkz];exact r4) ?_|apply And.intro|exact trivial)<;>conv=>whnf)
  refine cx ?_;conv=>whnf
  repeat' ((first|refine aq ?_|refine aG hq ?_|refine ld z ?_|refine ah ?_|apply And.intro|exact trivial)<;>conv=>whnf)
  repeat' ((first|refine aq ?_|refine aG hq7 ?_|refine ld ad8 ?_|apply And.intro|exact trivial)<;>conv=>whnf)
  refine aK kF2 ?_;conv=>whnf
  refine gI rfl ?_;conv=>whnf
  repeat' ((first|refine gI rfl ?_|refine aq ?_|apply And.intro|exact trivial)<;>conv=>whnf)
  refine aK (vZ _ _ (v::args) h3 ad7 y) ?_;conv=>whnf
  exact⟨rfl,l03⟩
theorem FnStepSend_c (v:Value) (n:Nat) (h:Heap) (hB:Bytes h v n) (hn:n<=140737488355328):Pure prog 8 [v] h (.bool true):=by
 obtain⟨hs,hl,hb,hy⟩:=Rn hB;exact aaC hl (aea v n hs hb hn hy)
end Go.Proofs
