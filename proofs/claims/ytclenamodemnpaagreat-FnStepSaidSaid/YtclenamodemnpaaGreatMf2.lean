/- Part 2 of the lemmas on which the law rests: what functions of the program and of the reference do; no conditions but those that each lemma states. -/
import Derived.Orders
import Derived.Below
import Derived.Laws.StructEq
import Derived.Laws.Cover3
import Derived.Defers
import Derived.Recover
import Derived.Test.YtclenamodemnpaaGreatProg
import Derived.Test.YtclenamodemnpaaGreatMf1
set_option linter.unusedSimpArgs false
set_option linter.unusedVariables false
namespace Go.Vc
set_option linter.constructorNameAsVariable false
set_option linter.unusedVariables false
set_option linter.unusedSimpArgs false
variable {D:List Deferred} {P:Program} {S:nH} {F:Fs} {o:Oper} {e:Env} {h:Heap} {K:Slot->Bx->Heap->Prop} {E:List PanicEntry->Heap->Prop}
theorem Heap.le_refl (h:Heap):h.le h:=λ_ _ x=>x
theorem Heap.le_trans {a b c:Heap} (x:a.le b) (y:b.le c):a.le c:=λk o hk=>y k o (x k o hk)
theorem Heap.AN {b:Nat} (o:Obj) (U:h b=none):h.le (h.set b o):=by
 intro c x hc;simp only[Heap.set];split
 ·rename_i hh;subst hh;rw[U]at hc;cases hc
 ·exact hc
theorem kn {ti:TI} {v:Value} {Kc:List Value->Prop} (hx:kY ti v Kc):∃ vs,Kc vs/\∀ Kd:List Value->Prop,Kd vs->kY ti v Kd:=by
 unfold kY at hx ⊢;cases iZ:ti.agg with
 | true =>
  simp only[iZ]at hx;cases v with
  | agg cs =>
   simp only[bJ]at hx ⊢;split at hx
   ·rename_i hl;exact⟨_,hx,λKd hk=>by (try simp only[hl]);exact hk⟩
   ·exact hx.elim
  | _=>exact hx.elim
 | false =>
  simp only[iZ]at hx;simp only;split at hx
  ·exact⟨_,hx,λKd hk=>hk⟩
  ·exact hx.elim
theorem nK {rQ:Nat->Option TI}:∀(ps:List (Nat × Operand)) (Kp:List (Nat × List Value)->Prop),parts e rQ ps Kp ->
  ∃ qs,Kp qs/\∀ Kd:List (Nat × List Value)->Prop,Kd qs->parts e rQ ps Kd
 | [],Kp,hx=>⟨[],hx,λ_ hk=>hk⟩
 | (i,x)::ps,Kp,hx=>by
  simp only[parts]at hx;split at hx
  ·rename_i v ti hv cO;obtain⟨vs,hx,h1⟩:=kn hx;obtain⟨qs,hx,h2⟩:=nK ps _ hx;refine⟨_,hx,λKd hk=>?_⟩;simp only[parts,hv,cO];exact h1 _ (h2 _ hk)
  ·exact hx.elim
theorem nL:∀(xs:List Operand) (Kc:List Value->Prop),bE e xs Kc->∃ vs,Kc vs/\∀ Kd:List Value->Prop,Kd vs->bE e xs Kd
 | [],Kc,hx=>⟨[],hx,λ_ hk=>hk⟩
 | x::xs,Kc,hx=>by
  simp only[bE]at hx;split at hx
  ·rename_i v hv;obtain⟨vs,hx,h1⟩:=nL xs _ hx;exact⟨_,hx,λKd hk=>by simp only[bE,hv];exact h1 _ hk⟩
  ·exact hx.elim
theorem Mm {a:Option Addr} {cap l size:Nat} {Kc:Option Addr->Prop} (hx:Sub a cap l size Kc):∃ oa,Kc oa/\∀ Kd:Option Addr->Prop,Kd oa->Sub a cap l size Kd:=by
 rw[Ax]at hx ⊢;unfold Iu at hx ⊢;by_cases hh:cap=l
 ·exact⟨a,hx a (λhn=>absurd hh hn) (λ_=>rfl),λKd hk oa _ h2=>by rw[h2 hh];exact hk⟩
 ·exact⟨_,hx _ (λ_=>rfl) (λhe=>absurd he hh),λKd hk oa h1 _=>by rw[h1 hh];exact hk⟩
theorem wk {size:Nat} {a:Option Addr} {cap H:Nat} {lo:Option Slot} {Kc:Value->Prop} (hx:oI size a cap lo H Kc):∃ v,Kc v/\∀ Kd:Value->Prop,Kd v->oI size a cap lo H Kd:=by
 unfold oI at hx ⊢;split at hx
 ·exact⟨_,hx,λ_ hk=>hk⟩
 ·obtain⟨h1,hx⟩:=cI.1 hx;obtain⟨oa,hx,h2⟩:=Mm hx;exact⟨_,hx,λKd hk=>cI.2 ⟨h1,h2 _ hk⟩⟩
 ·exact hx.elim
theorem wm {size:Nat} {a:Option Addr} {n cap:Nat} {lo hi:Option Slot} {Kc:Value->Prop} (hx:oJ size a n cap lo hi Kc):∃ v,Kc v/\∀ Kd:Value->Prop,Kd v->oJ size a n cap lo hi Kd:=by
 unfold oJ at hx ⊢;split at hx
 ·exact wk hx
 ·obtain⟨h1,hx⟩:=cI.1 hx;obtain⟨v,hx,h2⟩:=wk hx;exact⟨v,hx,λKd hk=>cI.2 ⟨h1,h2 Kd hk⟩⟩
 ·exact hx.elim
theorem Mn {t:TypeId} {ps:List (Nat × Operand)} {Kc:Value->Prop} (hx:Pm S t ps e Kc):∃ v,Kc v/\∀ Kd:Value->Prop,Kd v->Pm S t ps e Kd:=by
 unfold Pm at hx ⊢;split at hx
 ·rename_i ti cO;split at hx
  ·exact hx.elim
  ·rename_i pl rQ fV;obtain⟨qs,hx,h1⟩:=nK _ _ hx;split at hx
   ·rename_i cs hcs;rw[bJ]at hx;refine⟨_,hx,λKd hk=>?_⟩;try simp only[cO,fV]
    refine h1 _ ?_;simp only[hcs,bJ];exact hk
   ·exact hx.elim
 ·exact hx.elim
theorem xM {op:BinOp} {k:IntKind} {m n:Int} {Kc:Value->Prop} (hx:vg op k m n Kc False):∃ v,Kc v/\∀ Kd:Value->Prop,Kd v->vg op k m n Kd False:=by
 cases op<;>simp only[vg]at hx ⊢<;>first
  | exact hx.elim
  | exact⟨_,hx,λ_ hk=>hk⟩
  | exact⟨_,iH.1 hx,λ_ hk=>iH.2 hk⟩
  | (obtain⟨h1,hx⟩:=cI.1 hx;exact⟨_,iH.1 hx,λ_ hk=>cI.2 ⟨h1,iH.2 hk⟩⟩)
  | (obtain⟨h1,hx⟩:=cI.1 hx;exact⟨_,hx,λ_ hk=>cI.2 ⟨h1,hk⟩⟩)
inductive dR where
 | P|L|R|X|A|W
def cls (F:Fs) (o:Oper):dR :=
 match o.op with
 | .alloc _ | .box .. | .buildSlice ..=>match Ih F.L o.dst with
  | true=>.P
  | false=>.X
 | .load ..=>match Ih F.LL o.dst with
  | true=>.L
  | false=>.R
 | .makeSlice ..=>.X
 | .call {callee:=.value f,.. }=>match Pk F f with
  | true=>.A
  | false=>.X
 | .call {callee:=.builtin .append,.. }=>.A
 | op=>match Iv op with
  | true=>.W
  | false=>.P
theorem Ct {d:Option Nat} (hh:Ih F.L d=true):∃ d',isLocal F d=some d'/\d=some d':=by
 cases d with
 | none=>cases hh
 | some d=>simp only[Ih]at hh;exact⟨d,by simp[isLocal,hh],rfl⟩
theorem xN {t:TypeId} {d:Option Nat} {cs:List Value} (hl:Ih F.L d=true) (hx:newVar F t d cs e h K) :
  ∃ s bx,K s bx h/\∀(h':Heap) (K':Slot->Bx->Heap->Prop),K' s bx h'->newVar F t d cs e h' K':=by
 obtain⟨d',h1,h2⟩:=Ct hl;unfold newVar at hx ⊢;simp only[h1]at hx ⊢;split at hx
 ·rename_i U;rw[bJ]at hx;exact⟨_,_,hx,λh' K' hk=>by simp only[U,bJ];exact hk⟩
 ·exact hx.elim
theorem En {t:TypeId} {d:Option Nat} {n:Nat} {cs:List Value} (hl:Ih F.L d=true) (hx:newRow F t d n cs e h K) :
  ∃ s bx,K s bx h/\∀(h':Heap) (K':Slot->Bx->Heap->Prop),K' s bx h'->newRow F t d n cs e h' K':=by
 obtain⟨d',h1,h2⟩:=Ct hl;unfold newRow at hx ⊢;simp only[h1]at hx ⊢;split at hx
 ·rename_i U;rw[bJ]at hx;exact⟨_,_,hx,λh' K' hk=>by simp only[U,bJ];exact hk⟩
 ·exact hx.elim
theorem zR {ti:TI} {u off:Nat} (hx:load ti (.l u off) e h K):∃ s,K s none h/\∀(h':Heap) (K':Slot->Bx->Heap->Prop),K' s none h'->load ti (.l u off) e h' K':=by
 unfold load at hx ⊢;simp only at hx ⊢;split at hx
 ·rename_i vs iT;try simp only[iT]
  split at hx
  ·rename_i iZ;rw[bJ]at hx;exact⟨_,hx,λh' K' hk=>by first|exact(bJ _ _).2 hk|(simp only[iZ,bJ];exact hk)⟩
  ·rename_i iZ;split at hx
   ·exact⟨_,hx,λh' K' hk=>by first|exact hk|(simp only[iZ];exact hk)⟩
   ·exact hx.elim
 ·exact hx.elim
theorem iI {h':Heap} (hl:h.le h') {b:Nat}:∀(n off:Nat) (vs:List Value),eG h b off n=some vs->eG h' b off n=some vs:=by
 have Mo:∀ off v,rd h b off=some v->rd h' b off=some v:=by
  intro off v hv;unfold rd at hv ⊢;cases U:h b with
  | none=>rw[U]at hv;cases hv
  | some o=>rw[U]at hv;rw[hl b o U];exact hv
 intro n;induction n with
 | zero=>intro off vs hv;exact hv
 | succ n ih =>
  intro off vs hv;simp only[eG]at hv ⊢;split at hv
  ·rename_i v r h1 h2;rw[Mo _ _ h1,ih _ _ h2];exact hv
  ·cases hv
theorem Cu {ti:TI} {x:Slot} (hx:load ti x e h K):∃ s,K s none h/\∀(h':Heap) (K':Slot->Bx->Heap->Prop),h.le h'->K' s none h'->load ti x e h' K':=by
 cases x with
 | l u off =>
  obtain⟨s,h1,h2⟩:=zR hx;exact⟨s,h1,λh' K' _ hk=>h2 h' K' hk⟩
 | r u k=>exact hx.elim
 | x=>exact hx.elim
 | v v =>
  unfold load at hx ⊢;split at hx
  ·rename_i hh;cases hh
  ·rename_i b off hh;cases hh
   split at hx
   ·rename_i iZ;rw[tF]at hx;unfold D7 at hx;obtain⟨vs,iT,hx⟩:=hx;refine⟨_,hx,λh' K' hl hk=>?_⟩;try simp only[iZ]
    rw[tF];unfold D7;exact⟨vs,iI hl _ _ _ iT,hk⟩
   ·rename_i iZ;split at hx
    ·rename_i hsz;rw[xz]at hx;unfold Pj at hx;obtain⟨v,hv,hx⟩:=hx;refine⟨_,hx,λh' K' hl hk=>?_⟩;try simp only[iZ,hsz]
     rw[xz];unfold Pj;have:=iI hl (b:=b) 1 off [v] (by simp[eG,hv]);simp only[eG]at this;split at this
     ·rename_i v' r h1 h2;simp only[Option.some.injEq,List.cons.injEq]at this;exact⟨v,by rw[h1,this.1],hk⟩
     ·cases this
    ·exact hx.elim
  ·exact hx.elim
theorem Cv (hx:zu P o e h true K):∃ v,K (.v v) none h/\∀(h':Heap) (K':Slot->Bx->Heap->Prop),K' (.v v) none h'->zu P o e h' true K':=by
 unfold zu at hx;rw[qe]at hx;unfold xA at hx;obtain⟨hv,v,hK,hr⟩:=hx;exact⟨v,hK,λh' K' hk=>by unfold zu;rw[qe];unfold xA;exact⟨hv,v,hk,hr⟩⟩
theorem IK {e':Env} (hg:∀ y∈o.op.operands,e'.get y=e.get y) (hx:zu P o e h true K):zu P o e' h true K:=by
 unfold zu at hx ⊢;rw[qe]at hx ⊢;unfold xA at hx ⊢;obtain⟨hv,v,hK,hr⟩:=hx;exact⟨λx hm=>by rw[hg x hm];exact hv x hm,v,hK,λρ vp w=>hr ρ (λx hm=>by rw[<-hg x hm];exact vp x hm) w⟩
theorem IL (hc:cls F o=.P\/cls F o=.L) (hx:exec P S F true o e h K E) :
  ∃ s bx,K s bx h/\∀(h':Heap) (K':Slot->Bx->Heap->Prop) (E':List PanicEntry->Heap->Prop),K' s bx h'->exec P S F true o e h' K' E':=by
 obtain⟨dst,op,ty,pos,after,guard⟩:=o;cases op with
 | move y =>
  simp only[exec]at hx ⊢;cases hy:e.get y<;>simp only[hy]at hx<;>first|exact hx.elim|exact⟨_,_,hx,λ_ _ _ hk=>hk⟩
 | assign y =>
  simp only[exec]at hx ⊢;cases hy:e.get y<;>simp only[hy]at hx<;>first|exact hx.elim|exact⟨_,_,hx,λ_ _ _ hk=>hk⟩
 | pick c y z =>
  simp only[exec]at hx ⊢;split at hx
  ·rename_i t ht;cases t with
   | true =>
    have hx:(match e.get y with | .x=>False|s=>K s none h):=hx;cases hy:e.get y<;>simp only[hy]at hx<;>first|exact hx.elim|exact⟨_,_,hx,λ_ _ _ hk=>by (try simp only[ht,hy]);exact hk⟩
   | false =>
    have hx:(match e.get z with | .x=>False|s=>K s none h):=hx;cases hy:e.get z<;>simp only[hy]at hx<;>first|exact hx.elim|exact⟨_,_,hx,λ_ _ _ hk=>by (try simp only[ht,hy]);exact hk⟩
  ·exact hx.elim
 | alloc t =>
  have hl:Ih F.L dst=true:=by
   simp only[cls]at hc;split at hc
   ·assumption
   ·simp at hc
  simp only[exec]at hx ⊢;split at hx
  ·rename_i ti cO;obtain⟨s,bx,h1,h2⟩:=xN hl hx;exact⟨s,bx,h1,λh' K' E' hk=>by (try simp only[cO]);exact h2 h' K' hk⟩
  ·exact hx.elim
 | box t y =>
  have hl:Ih F.L dst=true:=by
   simp only[cls]at hc;split at hc
   ·assumption
   ·simp at hc
  simp only[exec]at hx ⊢;split at hx
  ·rename_i v ti hv cO;obtain⟨cs,hx,h3⟩:=kn hx;obtain⟨s,bx,h1,h2⟩:=xN hl hx;exact⟨s,bx,h1,λh' K' E' hk=>by (try simp only[hv,cO]);exact h3 _ (h2 h' K' hk)⟩
  ·exact hx.elim
 | build t ps =>
  simp only[exec]at hx ⊢;obtain⟨v,hx,h1⟩:=Mn hx;exact⟨_,_,hx,λh' K' E' hk=>h1 _ hk⟩
 | buildSlice t k ps =>
  have hl:Ih F.L dst=true:=by
   simp only[cls]at hc;split at hc
   ·assumption
   ·simp at hc
  simp only[exec]at hx ⊢;split at hx
  ·rename_i el cO;split at hx
   ·rename_i te iL;split at hx
    ·rename_i hle;obtain⟨qs,hx,h3⟩:=nK _ _ hx;split at hx
     ·rename_i cs hcs;obtain⟨s,bx,h1,h2⟩:=En hl hx;refine⟨s,bx,h1,λh' K' E' hk=>?_⟩;try simp only[cO,iL,hle]
      refine h3 _ ?_;try simp only[hcs]
      exact h2 h' K' hk
     ·exact hx.elim
    ·exact hx.elim
   ·exact hx.elim
  ·exact hx.elim
 | load t y =>
  have hl:Ih F.LL dst=true:=by
   simp only[cls]at hc;split at hc
   ·assumption
   ·simp at hc
  simp only[exec]at hx ⊢;split at hx
  ·rename_i ti cO;simp only[hl]at hx;split at hx
   ·rename_i u off hy;obtain⟨s,h1,h2⟩:=zR hx;exact⟨s,none,h1,λh' K' E' hk=>by (try simp only[cO,hl,hy]);exact h2 h' K' hk⟩
   ·exact hx.elim
  ·exact hx.elim
 | nilCheck y =>
  simp only[exec]at hx ⊢;split at hx
  ·rename_i hy;exact⟨_,_,hx,λ_ _ _ hk=>by (try simp only[hy]);exact hk⟩
  ·rename_i hy;exact⟨_,_,hx,λ_ _ _ hk=>by (try simp only[hy]);exact hk⟩
  ·rename_i hy;exact⟨_,_,hx,λ_ _ _ hk=>by (try simp only[hy]);exact hk⟩
  ·rename_i hy;exact⟨_,_,hx,λ_ _ _ hk=>by (try simp only[hy]);exact hk⟩
  ·exact hx.elim
 | binOp op t y z u =>
  simp only[exec]at hx ⊢;split at hx
  ·rename_i j i k m hy hz;split at hx
   ·rename_i FK;obtain⟨v,hx,h1⟩:=xM hx;exact⟨_,_,hx,λh' K' E' hk=>by (try simp only[hy,hz,FK]);exact h1 _ hk⟩
   ·exact hx.elim
  ·rename_i b c hy hz;split at hx
   ·rename_i cO;split at hx
    ·exact⟨_,_,hx,λh' K' E' hk=>by (try simp only[hy,hz,cO]);exact hk⟩
    ·exact⟨_,_,hx,λh' K' E' hk=>by (try simp only[hy,hz,cO]);exact hk⟩
    ·exact hx.elim
   ·exact hx.elim
  ·rename_i h1 h2;obtain⟨v,hx,h1⟩:=Cv hx;exact⟨_,_,hx,λh' K' E' hk=>h1 h' K' hk⟩
 | unOp op t y =>
  simp only[exec]at hx ⊢;split at hx
  ·rename_i b hy;exact⟨_,_,hx,λ_ _ _ hk=>by (try simp only[hy]);exact hk⟩
  ·rename_i k m hy;rw[iH]at hx;exact⟨_,_,hx,λ_ _ _ hk=>by (try simp only[hy,iH]);exact hk⟩
  ·exact hx.elim
 | convert s t y =>
  simp only[exec]at hx ⊢;split at hx
  ·rename_i ti tj k m cO Lz hy;split at hx
   ·rename_i k' hd;rw[iH]at hx;exact⟨_,_,hx,λ_ _ _ hk=>by (try simp only[cO,Lz,hy,hd,iH]);exact hk⟩
   ·exact hx.elim
  ·exact hx.elim
 | makeInterface t y =>
  simp only[exec]at hx ⊢;split at hx
  ·rename_i ti v cO hy;split at hx
   ·exact hx.elim
   ·rename_i cD;refine⟨_,_,hx,λ_ _ _ hk=>?_⟩;try simp only[cO,hy]
    cases hd:ti.d<;>first|exact hk|exact absurd hd cD
  ·exact hx.elim
 | makeFunc f fs cs =>
  simp only[exec]at hx ⊢;obtain⟨vs,hx,h1⟩:=nL _ _ hx;obtain⟨us,hx,h2⟩:=nL _ _ hx;exact⟨_,_,hx,λ_ _ _ hk=>h1 _ (h2 _ hk)⟩
 | slice t y lo hi mx =>
  simp only[exec]at hx ⊢;split at hx
  ·rename_i el cO;split at hx
   ·rename_i te p m cap iL hy;obtain⟨v,hx,h1⟩:=wm hx;exact⟨_,_,hx,λh' K' E' hk=>by (try simp only[cO,iL,hy]);exact h1 _ hk⟩
   ·exact hx.elim
  ·exact hx.elim
 | fieldAddr t y i =>
  simp only[exec]at hx ⊢;split at hx
  ·rename_i fs cO;split at hx
   ·rename_i k u hf;split at hx
    ·rename_i hy;exact⟨_,_,hx,λ_ _ _ hk=>by (try simp only[cO,hf,hy]);exact hk⟩
    ·rename_i hy;exact⟨_,_,hx,λ_ _ _ hk=>by (try simp only[cO,hf,hy]);exact hk⟩
    ·exact hx.elim
   ·exact hx.elim
  ·exact hx.elim
 | field t y i =>
  simp only[exec]at hx ⊢;split at hx
  ·rename_i fs cO;split at hx
   ·rename_i k u hf;split at hx
    ·rename_i cs tu hy AH;split at hx
     ·rename_i vs iT;cases iZ:tu.agg with
      | true =>
       simp only[iZ,bJ]at hx;exact⟨_,_,hx,λ_ _ _ hk=>by (try simp only[cO,hf,hy,AH,iT,iZ,bJ]);exact hk⟩
      | false =>
       simp only[iZ]at hx;split at hx
       ·exact⟨_,_,hx,λ_ _ _ hk=>by (try simp only[cO,hf,hy,AH,iT,iZ]);exact hk⟩
       ·exact hx.elim
     ·exact hx.elim
    ·exact hx.elim
   ·exact hx.elim
  ·exact hx.elim
 | indexAddr t y z =>
  simp only[exec]at hx ⊢;split at hx
  ·rename_i k i hz;split at hx
   ·rename_i el cO;split at hx
    ·rename_i iL hy;obtain⟨h1,hx⟩:=cI.1 hx;rw[qS]at hx;unfold Cg at hx;obtain⟨b,off,hp,hx⟩:=hx;exact⟨_,_,hx,λ_ _ _ hk=>by (try simp only[hz,cO,iL,hy]);exact cI.2 ⟨h1,by rw[qS];unfold Cg;exact⟨b,off,hp,hk⟩⟩⟩
    ·rename_i iL hy;obtain⟨h1,hx⟩:=cI.1 hx;exact⟨_,_,hx,λ_ _ _ hk=>by (try simp only[hz,cO,iL,hy]);exact cI.2 ⟨h1,hk⟩⟩
    ·exact hx.elim
   ·rename_i el cO;split at hx
    ·rename_i iL hy;obtain⟨h1,hx⟩:=cI.1 hx;exact⟨_,_,hx,λ_ _ _ hk=>by (try simp only[hz,cO,iL,hy]);exact cI.2 ⟨h1,hk⟩⟩
    ·rename_i iL hy;obtain⟨h1,hx⟩:=cI.1 hx;exact⟨_,_,hx,λ_ _ _ hk=>by (try simp only[hz,cO,iL,hy]);exact cI.2 ⟨h1,hk⟩⟩
    ·exact hx.elim
   ·exact hx.elim
  ·exact hx.elim
 | index t y z =>
  simp only[exec]at hx ⊢;split at hx
  ·rename_i hy hz;split at hx
   ·rename_i cO;obtain⟨h1,hx⟩:=cI.1 hx;exact⟨_,_,hx,λ_ _ _ hk=>by (try simp only[hy,hz,cO]);exact cI.2 ⟨h1,hk⟩⟩
   ·exact hx.elim
  ·exact hx.elim
 | extract y i =>
  simp only[exec]at hx ⊢;split at hx
  ·rename_i vs hy;split at hx
   ·rename_i v hv;exact⟨_,_,hx,λ_ _ _ hk=>by (try simp only[hy,hv]);exact hk⟩
   ·exact hx.elim
  ·exact hx.elim
 | call c =>
  obtain⟨callee,args,ts⟩:=c;cases callee with
  | value f=>simp only[cls]at hc;split at hc<;>simp at hc
  | invoke r m=>simp[cls,Iv]at hc
  | builtin b =>
   cases b with
   | len =>
    simp only[exec]at hx ⊢;split at hx
    ·rename_i y hargs;split at hx
     ·rename_i hy;split at hx
      ·rename_i cO;exact⟨_,_,hx,λ_ _ _ hk=>by (try simp only[hargs,hy,cO]);exact hk⟩
      ·exact hx.elim
     ·rename_i hy;split at hx
      ·rename_i cO;exact⟨_,_,hx,λ_ _ _ hk=>by (try simp only[hargs,hy,cO]);exact hk⟩
      ·exact hx.elim
     ·exact hx.elim
    ·exact hx.elim
   | append=>simp[cls]at hc
   | max =>
    simp only[exec]at hx ⊢;split at hx
    ·split at hx
     ·split at hx
      ·exact⟨_,_,hx,λ_ _ _ hk=>by first|exact hk|(simp only[*];exact hk)⟩
      ·exact hx.elim
     ·exact hx.elim
    ·exact hx.elim
   | min =>
    simp only[exec]at hx ⊢;split at hx
    ·split at hx
     ·split at hx
      ·exact⟨_,_,hx,λ_ _ _ hk=>by first|exact hk|(simp only[*];exact hk)⟩
      ·exact hx.elim
     ·exact hx.elim
    ·exact hx.elim
   | cap =>
    simp only[exec]at hx ⊢;split at hx
    ·split at hx
     ·split at hx
      ·exact⟨_,_,hx,λ_ _ _ hk=>by first|exact hk|(simp only[*];exact hk)⟩
      ·exact hx.elim
     ·exact hx.elim
    ·exact hx.elim
   | _=>simp[cls,Iv]at hc
 | _=>simp[cls,Iv]at hc
def Slot.refs:Slot->Nat->Prop
 | .l t _,u=>t=u
 | .r t _,u=>t=u
 | _,_=>False
structure xe (F:Fs) (o:Oper) (e:Env) (h:Heap) (s:Slot) (bx:Bx) (h':Heap):Prop where
 fb:∀ u cs,bx=some (u,cs)->(o.dst=some u/\e.b u=none)\/(cls F o=.W/\∃ y∈o.op.operands,(e.get y).refs u)
 fs:∀ u,s.refs u->(∃ y∈o.op.operands,(e.get y).refs u)\/(∃ cs,bx=some (u,cs))
 le:cls F o≠.W->cls F o≠.A->h.le h'
structure N2 (F:Fs) (o:Oper) (e e':Env):Prop where
 get:∀ y∈o.op.operands,e'.get y=e.get y
 box:cls F o=.P\/∀ y∈o.op.operands,∀ u,(e.get y).refs u->e'.b u=e.b u
 dst:∀ d,o.dst=some d->e.b d=none->e'.b d=none
theorem xe.plain {x:Value}:xe F o e h (.v x) none h:=⟨(λ_ _ hh=>by cases hh),λ_ hh=>hh.elim,λ_ _=>Heap.le_refl h⟩
theorem xe.same {s:Slot} {y:Operand} (hy:y∈o.op.operands) (hs:e.get y=s):xe F o e h s none h :=
 ⟨(λ_ _ hh=>by cases hh),λu hh=>.inl ⟨y,hy,by rw[hs];exact hh⟩,λ_ _=>Heap.le_refl h⟩
theorem vq {e':Env} {rQ:Nat->Option TI}:∀(ps:List (Nat × Operand)) (Kp:List (Nat × List Value)->Prop),(∀ p∈ps,e'.get p.2=e.get p.2)->parts e rQ ps Kp->parts e' rQ ps Kp
 | [],Kp,_,hx=>hx
 | (i,x)::ps,Kp,hg,hx=>by
  simp only[parts,hg (i,x) (by simp)]at hx ⊢;split at hx
  ·obtain⟨vs,hx,h1⟩:=kn hx;exact h1 _ (vq ps _ (λp hp=>hg p (by simp[hp])) hx)
  ·exact hx.elim
theorem tM {e':Env}:∀(xs:List Operand) (Kc:List Value->Prop),(∀ x∈xs,e'.get x=e.get x)->bE e xs Kc->bE e' xs Kc
 | [],Kc,_,hx=>hx
 | x::xs,Kc,hg,hx=>by
  simp only[bE,hg x (by simp)]at hx ⊢;split at hx
  ·exact tM xs _ (λy hy=>hg y (by simp[hy])) hx
  ·exact hx.elim
theorem wq {e':Env} {t:TypeId} {cs:List Value} {K':Slot->Bx->Heap->Prop} (hd:∀ d,o.dst=some d->e.b d=none->e'.b d=none) (hx:newVar F t o.dst cs e h K)
  (hk:∀ s bx h',K s bx h'->xe F o e h s bx h'->K' s bx h'):newVar F t o.dst cs e' h K':=by
 unfold newVar at hx ⊢;split at hx
 ·rename_i d hl;have hl:=oK hl;split at hx
  ·rename_i U;rw[bJ]at hx;simp only[hd d hl U,bJ];exact hk _ _ _ hx ⟨λu jt hh=>by simp only[Option.some.injEq,Prod.mk.injEq]at hh;exact .inl ⟨by rw[hl,hh.1],by rw[<-hh.1];exact U⟩,λu hh=>.inr ⟨_,by cases hh;rfl⟩,λ_ _=>Heap.le_refl h⟩
  ·exact hx.elim
 ·rw[oF]at hx ⊢;unfold Av at hx ⊢;intro b U;exact hk _ _ _ (hx b U) ⟨(λ_ _ hh=>by cases hh),λ_ hh=>hh.elim,λ_ _=>Heap.AN _ U⟩
theorem Cw {e':Env} {t:TypeId} {n:Nat} {cs:List Value} {K':Slot->Bx->Heap->Prop} (hd:∀ d,o.dst=some d->e.b d=none->e'.b d=none) (hx:newRow F t o.dst n cs e h K)
  (hk:∀ s bx h',K s bx h'->xe F o e h s bx h'->K' s bx h'):newRow F t o.dst n cs e' h K':=by
 unfold newRow at hx ⊢;split at hx
 ·rename_i d hl;have hl:=oK hl;split at hx
  ·rename_i U;rw[bJ]at hx;simp only[hd d hl U,bJ];exact hk _ _ _ hx ⟨λu jt hh=>by simp only[Option.some.injEq,Prod.mk.injEq]at hh;exact .inl ⟨by rw[hl,hh.1],by rw[<-hh.1];exact U⟩,λu hh=>.inr ⟨_,by cases hh;rfl⟩,λ_ _=>Heap.le_refl h⟩
  ·exact hx.elim
 ·rw[oF]at hx ⊢;unfold Av at hx ⊢;intro b U;exact hk _ _ _ (hx b U) ⟨(λ_ _ hh=>by cases hh),λ_ hh=>hh.elim,λ_ _=>Heap.AN _ U⟩
theorem Cx {e':Env} {ti:TI} {x:Slot} (U:∀ u,x.refs u->e'.b u=e.b u) (hx:load ti x e h K):∃ v,K (.v v) none h/\∀ K':Slot->Bx->Heap->Prop,K' (.v v) none h->load ti x e' h K':=by
 cases x with
 | l u off =>
  have hr:xC e' u off ti.size=xC e u off ti.size:=by unfold xC;rw[U u rfl]
  unfold load at hx ⊢;simp only[hr]at hx ⊢;cases iT:xC e u off ti.size with
  | none=>rw[iT]at hx;exact hx.elim
  | some vs =>
   rw[iT]at hx;cases iZ:ti.agg with
   | true =>
    simp only[iZ,bJ]at hx;exact⟨_,hx,λK' hk=>by simp only[bJ];exact hk⟩
   | false =>
    simp only[iZ]at hx;rcases vs with _|⟨v,_|_⟩
    ·exact hx.elim
    ·exact⟨_,hx,λK' hk=>hk⟩
    ·exact hx.elim
 | r u k=>exact hx.elim
 | x=>exact hx.elim
 | v v =>
  obtain⟨ss,h1,h2⟩:=Cu hx;unfold load at hx ⊢;split at hx
  ·rename_i hh;cases hh
  ·rename_i b off hh;cases hh
   cases iZ:ti.agg with
   | true =>
    simp only[iZ]at hx;rw[tF]at hx ⊢;unfold D7 at hx ⊢;obtain⟨vs,iT,hx⟩:=hx;exact⟨_,hx,λK' hk=>⟨vs,iT,hk⟩⟩
   | false =>
    simp only[iZ]at hx;split at hx
    ·rw[xz]at hx ⊢;unfold Pj at hx ⊢;obtain⟨v,hv,hx⟩:=hx;exact⟨_,hx,λK' hk=>⟨v,hv,hk⟩⟩
    ·exact hx.elim
  ·exact hx.elim
theorem Mp {e':Env} {Kv Sw:Value->Heap->Prop} (hg:∀ y∈o.op.operands,e'.get y=e.get y) (hx:Raw P o e h Kv) (hk:∀ v h',Kv v h'->Sw v h'):Raw P o e' h Sw:=by
 rw[mV]at hx ⊢;unfold zo at hx ⊢;refine⟨λx hm=>by rw[hg x hm];exact hx.1 x hm,λρ vp w hv=>?_⟩;obtain⟨v,w',h',h1,h2,h3⟩:=hx.2 ρ (λx hm=>by rw[<-hg x hm];exact vp x hm) w hv;exact⟨v,w',h',h1,h2,hk _ _ h3⟩
theorem cH.mono {f:FuncId} {args:List Value} {R R':Out->Heap->Prop} (hx:cH P f args h R) (hr:∀ o h',R o h'->R' o h'):cH P f args h R':=by
 intro w hv;refine(hx w hv).mono ?_;rintro e w' ⟨h',m,hm⟩;refine⟨h',m,?_⟩;cases e<;>first|exact hr _ _ hm|exact hm
theorem GM {e':Env} {ti:TI} {x:Slot} {v:Value} {K':Slot->Bx->Heap->Prop} (U:∀ u,x.refs u->e'.b u=e.b u) (hx:store ti x v e h K)
  (hk:∀ s bx h',K s bx h'->(s=.v undef/\∀ u cs,bx=some (u,cs)->x.refs u)->K' s bx h'):store ti x v e' h K':=by
 unfold store at hx ⊢;obtain⟨vs,hx,h1⟩:=kn hx;refine h1 _ ?_;split at hx
 ·exact hx.elim
 ·cases x with
  | l u off =>
   simp only at hx ⊢;rw[U u rfl];split at hx
   ·split at hx
    ·rw[bJ]at hx;exact(bJ _ _).2 (hk _ _ _ hx ⟨rfl,λu' jt hh=>by simp only[Option.some.injEq,Prod.mk.injEq]at hh;exact hh.1⟩)
    ·exact hx.elim
   ·exact hx.elim
  | v v =>
   cases v with
   | pointer p =>
    rcases p with _|⟨b,off,_|sp⟩
    ·exact hx.elim
    ·simp only at hx ⊢;rw[D9]at hx ⊢;unfold Sg at hx ⊢;obtain⟨cs,t,g1,g2,g3⟩:=hx;exact⟨cs,t,g1,g2,hk _ _ _ g3 ⟨rfl,(λ_ _ hh=>by cases hh)⟩⟩
    ·exact hx.elim
   | _=>exact hx.elim
  | _=>exact hx.elim
theorem Eo {e':Env} {size:Nat} {x:Slot} {Kc:Nat->List Value->Prop} (U:∀ u,x.refs u->e'.b u=e.b u) (hx:appArg e size x h Kc) :
  ∃ m vs,Kc m vs/\∀ Kd:Nat->List Value->Prop,Kd m vs->appArg e' size x h Kd:=by
 unfold appArg at hx ⊢;split at hx
 ·rename_i t k;simp only[U t rfl];split at hx
  ·split at hx
   ·rename_i hl;exact⟨_,_,hx,λ_ hk=>by (try simp only[hl]);exact hk⟩
   ·exact hx.elim
  ·exact hx.elim
 ·rw[tG]at hx ⊢;unfold D8 at hx ⊢;rcases hx with ⟨hz,hx⟩|⟨b,off,vs,hp,iT,hx⟩
  ·exact⟨_,_,hx,λ_ hk=>.inl ⟨hz,hk⟩⟩
  ·exact⟨_,_,hx,λ_ hk=>.inr ⟨b,off,vs,hp,iT,hk⟩⟩
 ·exact hx.elim
theorem App.mono {bytes size:Nat} {zero:List Value} {el:TypeId} {p:Option Addr} {n cap m:Nat} {vs:List Value} {Kv Sw:Value->Heap->Prop} (hx:App bytes size zero el h p n cap m vs Kv) (hk:∀ v h',Kv v h'->Sw v h') :
  App bytes size zero el h p n cap m vs Sw:=by
 rw[oH]at hx ⊢;unfold Aw at hx ⊢;refine⟨λhle=>?_,λiS=>?_⟩
 ·obtain⟨h1,h2⟩:=hx.1 hle;refine⟨h1,?_⟩;rcases p with _|⟨b,off,_|sp⟩
  ·exact⟨h2.1,hk _ _ h2.2⟩
  ·obtain⟨cs,t,h3,h4,h5⟩:=h2;exact⟨cs,t,h3,h4,hk _ _ h5⟩
  ·exact h2.elim
 ·obtain⟨h1,h2,ic,h3,h4⟩:=hx.2 iS;exact⟨h1,h2,ic,h3,λb c U hc=>hk _ _ (h4 b c U hc)⟩
theorem Cy {x:Bool} {fv:Value} {args:List Value} {K':Slot->Bx->Heap->Prop} (hx:qf P S x fv args h K E) (hk:∀ s bx h',K s bx h'->(∃ v,s=.v v)->bx=none->(x=true->h.le h')->K' s bx h'):qf P S x fv args h K' E:=by
 unfold qf at hx ⊢;split at hx
 ·split at hx
  ·rw[bJ]at hx ⊢;cases x with
   | true =>
    simp only at hx ⊢;rw[qR]at hx ⊢;unfold vc at hx ⊢;refine hx.mono λo h' hh=>?_;cases o with
    | ret v=>exact⟨hh.1,hk _ _ _ hh.2 ⟨v,rfl⟩ rfl (λ_=>hh.1)⟩
    | lE c=>exact hh
   | false =>
    simp only at hx ⊢;rw[tE]at hx ⊢;unfold xy at hx ⊢;refine hx.mono λo h' hh=>?_;cases o with
    | ret v=>exact hk _ _ _ hh ⟨v,rfl⟩ rfl (λh0=>by cases h0)
    | lE c=>exact hh
  ·exact hx.elim
 ·exact hx.elim
theorem Sy {o:Oper} (hw:Iv o.op=true):cls F o=.W:=by
 obtain⟨dst,op,ty,pos,after,guard⟩:=o;cases op with
 | call c =>
  obtain⟨callee,args,ts⟩:=c;cases callee with
  | value f=>cases hw
  | invoke r m=>rfl
  | builtin b=>cases b<;>first|rfl|cases hw
 | _=>first|rfl|cases hw
theorem nM {e':Env} {K':Slot->Bx->Heap->Prop} (ha:N2 F o e e') (hx:exec P S F true o e h K E)
  (hk:∀ s bx h',K s bx h'->xe F o e h s bx h'->K' s bx h'):exec P S F true o e' h K' E:=by
 obtain⟨dst,op,ty,pos,after,guard⟩:=o;have oP:∀ v,K (.v v) none h->K' (.v v) none h:=λv hv=>hk _ _ _ hv xe.plain;have kF:∀ W:Bool,W=Iv op->(match true && !W with
  | true=>False
  | false=>Raw P ⟨dst,op,ty,pos,after,guard⟩ e h λv h'=>K (.v v) none h')->(match true && !W with
  | true=>False
  | false=>Raw P ⟨dst,op,ty,pos,after,guard⟩ e' h λv h'=>K' (.v v) none h'):=by
  intro W hW hr;cases W with
  | false=>exact hr
  | true =>
   refine Mp ha.get hr λv h' hv=>hk _ _ _ hv ⟨(λ_ _ hh=>by cases hh),(λ_ hh=>hh.elim),λhc _=>?_⟩;exact absurd (Sy hW.symm) hc
 cases op with
 | move y =>
  have hg:=ha.get y (by simp[Op.operands]);simp only[exec,hg]at hx ⊢;cases hy:e.get y<;>simp only[hy]at hx<;>first|exact hx.elim|exact hk _ _ _ hx (xe.same (y:=y) (by simp[Op.operands]) hy)
 | assign y =>
  have hg:=ha.get y (by simp[Op.operands]);simp only[exec,hg]at hx ⊢;cases hy:e.get y<;>simp only[hy]at hx<;>first|exact hx.elim|exact hk _ _ _ hx (xe.same (y:=y) (by simp[Op.operands]) hy)
 | pick c y z =>
  have hgc:=ha.get c (by simp[Op.operands]);have Cz:=ha.get y (by simp[Op.operands]);have CA:=ha.get z (by simp[Op.operands]);simp only[exec,hgc,Cz,CA]at hx ⊢;split at hx
  ·rename_i t ht;cases t with
   | true =>
    have hx:(match e.get y with | .x=>False|s=>K s none h):=hx;show(match e.get y with | .x=>False|s=>K' s none h);cases hy:e.get y<;>simp only[hy]at hx<;>first|exact hx.elim|exact hk _ _ _ hx (xe.same (y:=y) (by simp[Op.operands]) hy)
   | false =>
    have hx:(match e.get z with | .x=>False|s=>K s none h):=hx;show(match e.get z with | .x=>False|s=>K' s none h);cases hy:e.get z<;>simp only[hy]at hx<;>first|exact hx.elim|exact hk _ _ _ hx (xe.same (y:=z) (by simp[Op.operands]) hy)
  ·exact hx.elim
 | alloc t =>
  simp only[exec]at hx ⊢;split at hx
  ·exact wq (o:=⟨dst,.alloc t,ty,pos,after,guard⟩) ha.dst hx hk
  ·exact hx.elim
 | box t y =>
  have hg:=ha.get y (by simp[Op.operands]);simp only[exec,hg]at hx ⊢;split at hx
  ·obtain⟨cs,hx,h3⟩:=kn hx;exact h3 _ (wq (o:=⟨dst,.box t y,ty,pos,after,guard⟩) ha.dst hx hk)
  ·exact hx.elim
 | build t ps =>
  have hg:∀ p∈ps.toList,e'.get p.2=e.get p.2:=λp hp=>ha.get p.2 (by simp only[Op.operands];exact List.mem_toArray.2 (List.mem_map.2 ⟨p,hp,rfl⟩));simp only[exec]at hx ⊢;unfold Pm at hx ⊢;split at hx
  ·split at hx
   ·exact hx.elim
   ·obtain⟨qs,hx,h1⟩:=nK _ _ hx;refine vq _ _ hg (h1 _ ?_);split at hx
    ·rw[bJ]at hx ⊢;exact oP _ hx
    ·exact hx.elim
  ·exact hx.elim
 | buildSlice t k ps =>
  have hg:∀ p∈ps.toList,e'.get p.2=e.get p.2:=λp hp=>ha.get p.2 (by simp only[Op.operands];exact List.mem_toArray.2 (List.mem_map.2 ⟨p,hp,rfl⟩));simp only[exec]at hx ⊢;split at hx
  ·split at hx
   ·split at hx
    ·obtain⟨qs,hx,h3⟩:=nK _ _ hx;refine vq _ _ hg (h3 _ ?_);split at hx
     ·exact Cw (o:=⟨dst,.buildSlice t k ps,ty,pos,after,guard⟩) ha.dst hx hk
     ·exact hx.elim
    ·exact hx.elim
   ·exact hx.elim
  ·exact hx.elim
 | load t y =>
  have hg:=ha.get y (by simp[Op.operands]);have U:∀ u,(e.get y).refs u->e'.b u=e.b u:=by
   rcases ha.box with hc|U
   ·simp only[cls]at hc;split at hc<;>cases hc
   ·exact U y (by simp[Op.operands])
  simp only[exec,hg]at hx ⊢;split at hx
  ·split at hx
   ·split at hx
    ·rename_i u off hy;obtain⟨v,h1,h2⟩:=Cx (e':=e') (λu' hu=>U u' (by rw[hy];exact hu)) hx;exact h2 _ (oP _ h1)
    ·exact hx.elim
   ·obtain⟨v,h1,h2⟩:=Cx (e':=e') U hx;exact h2 _ (oP _ h1)
  ·exact hx.elim
 | store t y z =>
  have Cz:=ha.get y (by simp[Op.operands]);have CA:=ha.get z (by simp[Op.operands]);have U:∀ u,(e.get y).refs u->e'.b u=e.b u:=by
   rcases ha.box with hc|U
   ·simp[cls,Iv]at hc
   ·exact U y (by simp[Op.operands])
  simp only[exec,Cz,CA]at hx ⊢;split at hx
  ·refine GM U hx λs bx h' hK hr=>hk _ _ _ hK ?_;refine⟨λu cs hh=>.inr ⟨by simp[cls,Iv],y,by simp[Op.operands],hr.2 u cs hh⟩,λu hu=>?_,λhc _=>?_⟩
   ·rw[hr.1]at hu;exact hu.elim
   ·exact absurd (by simp[cls,Iv]) hc
  ·exact hx.elim
 | nilCheck y =>
  have hg:=ha.get y (by simp[Op.operands]);simp only[exec,hg]at hx ⊢;split at hx
  ·rename_i hy;exact hk _ _ _ hx (xe.same (y:=y) (by simp[Op.operands]) hy)
  ·exact oP _ hx
  ·exact oP _ hx
  ·exact oP _ hx
  ·exact kF _ rfl hx
 | binOp op t y z u =>
  have Cz:=ha.get y (by simp[Op.operands]);have CA:=ha.get z (by simp[Op.operands]);simp only[exec,Cz,CA]at hx ⊢;split at hx
  ·split at hx
   ·obtain⟨v,hx,h1⟩:=xM hx;exact h1 _ (oP _ hx)
   ·exact kF _ rfl hx
  ·split at hx
   ·split at hx
    ·exact oP _ hx
    ·exact oP _ hx
    ·exact kF _ rfl hx
   ·exact kF _ rfl hx
  ·obtain⟨v,hx,h1⟩:=Cv hx;exact IK ha.get (h1 h (λs bx h'=>K' s bx h') (oP _ hx))
 | unOp op t y =>
  have hg:=ha.get y (by simp[Op.operands]);simp only[exec,hg]at hx ⊢;split at hx
  ·exact oP _ hx
  ·rw[iH]at hx ⊢;exact oP _ hx
  ·exact kF _ rfl hx
 | convert s t y =>
  have hg:=ha.get y (by simp[Op.operands]);simp only[exec,hg]at hx ⊢;split at hx
  ·split at hx
   ·rw[iH]at hx ⊢;exact oP _ hx
   ·exact kF _ rfl hx
  ·exact kF _ rfl hx
 | makeInterface t y =>
  have hg:=ha.get y (by simp[Op.operands]);simp only[exec,hg]at hx ⊢;split at hx
  ·split at hx
   ·exact hx.elim
   ·exact oP _ hx
  ·exact hx.elim
 | makeFunc f fs cs =>
  simp only[exec]at hx ⊢;obtain⟨vs,hx,h1⟩:=nL _ _ hx;obtain⟨us,hx,h2⟩:=nL _ _ hx;refine tM _ _ (λx hm=>ha.get x (by simp only[Op.operands];exact Array.mem_append.2 (.inl (Array.mem_toList_iff.1 hm)))) (h1 _ ?_);exact tM _ _ (λx hm=>ha.get x (by simp only[Op.operands];exact Array.mem_append.2 (.inr (Array.mem_toList_iff.1 hm)))) (h2 _ (oP _ hx))
 | slice t y lo hi mx =>
  have hg:=ha.get y (by simp[Op.operands]);have zL:gQ e' lo=gQ e lo:=by
   cases lo with
   | none=>rfl
   | some x=>simp only[gQ];rw[ha.get x (by simp[Op.operands])]
  have Pu:gQ e' hi=gQ e hi:=by
   cases hi with
   | none=>rfl
   | some x=>simp only[gQ];rw[ha.get x (by simp[Op.operands])]
  simp only[exec,hg,zL,Pu]at hx ⊢;split at hx
  ·split at hx
   ·obtain⟨v,hx,h1⟩:=wm hx;exact h1 _ (oP _ hx)
   ·exact kF _ rfl hx
  ·exact kF _ rfl hx
 | fieldAddr t y i =>
  have hg:=ha.get y (by simp[Op.operands]);simp only[exec,hg]at hx ⊢;split at hx
  ·split at hx
   ·split at hx
    ·rename_i u off hy;exact hk _ _ _ hx ⟨(λ_ _ hh=>by cases hh),(λu' hh=>.inl ⟨y,by simp[Op.operands],by rw[hy];exact hh⟩),λ_ _=>Heap.le_refl h⟩
    ·exact oP _ hx
    ·exact hx.elim
   ·exact hx.elim
  ·exact hx.elim
 | field t y i =>
  have hg:=ha.get y (by simp[Op.operands]);simp only[exec,hg]at hx ⊢;split at hx
  ·split at hx
   ·split at hx
    ·rename_i cs tu hy AH;split at hx
     ·cases iZ:tu.agg with
      | true=>simp only[iZ,bJ]at hx ⊢;exact oP _ hx
      | false =>
       simp only[iZ]at hx;simp only;split at hx
       ·exact oP _ hx
       ·exact hx.elim
     ·exact hx.elim
    ·exact hx.elim
   ·exact hx.elim
  ·exact hx.elim
 | indexAddr t y z =>
  have Cz:=ha.get y (by simp[Op.operands]);have CA:=ha.get z (by simp[Op.operands]);simp only[exec,Cz,CA]at hx ⊢;split at hx
  ·split at hx
   ·split at hx
    ·obtain⟨h1,hx⟩:=cI.1 hx;rw[qS]at hx ⊢;unfold Cg at hx ⊢;obtain⟨b,off,hp,hx⟩:=hx;exact cI.2 ⟨h1,b,off,hp,oP _ hx⟩
    ·rename_i hy;obtain⟨h1,hx⟩:=cI.1 hx;exact cI.2 ⟨h1,hk _ _ _ hx ⟨(λ_ _ hh=>by cases hh),(λu' hh=>.inl ⟨y,by simp[Op.operands],by rw[hy];exact hh⟩),λ_ _=>Heap.le_refl h⟩⟩
    ·exact hx.elim
   ·split at hx
    ·obtain⟨h1,hx⟩:=cI.1 hx;exact cI.2 ⟨h1,oP _ hx⟩
    ·rename_i hy;obtain⟨h1,hx⟩:=cI.1 hx;exact cI.2 ⟨h1,hk _ _ _ hx ⟨(λ_ _ hh=>by cases hh),(λu' hh=>.inl ⟨y,by simp[Op.operands],by rw[hy];exact hh⟩),λ_ _=>Heap.le_refl h⟩⟩
    ·exact hx.elim
   ·exact hx.elim
  ·exact hx.elim
 | index t y z =>
  have Cz:=ha.get y (by simp[Op.operands]);have CA:=ha.get z (by simp[Op.operands]);simp only[exec,Cz,CA]at hx ⊢;split at hx
  ·split at hx
   ·obtain⟨h1,hx⟩:=cI.1 hx;exact cI.2 ⟨h1,oP _ hx⟩
   ·exact kF _ rfl hx
  ·exact kF _ rfl hx
 | extract y i =>
  have hg:=ha.get y (by simp[Op.operands]);simp only[exec,hg]at hx ⊢;split at hx
  ·split at hx
   ·exact oP _ hx
   ·exact hx.elim
  ·exact hx.elim
 | makeSlice t y z =>
  have Cz:=ha.get y (by simp[Op.operands]);have CA:=ha.get z (by simp[Op.operands]);simp only[exec,Cz,CA]at hx ⊢;split at hx
  ·split at hx
   ·obtain⟨h1,hx⟩:=cI.1 hx;refine cI.2 ⟨h1,?_⟩;rw[oF]at hx ⊢;unfold Av at hx ⊢;exact λb U=>hk _ _ _ (hx b U) ⟨(λ_ _ hh=>by cases hh),(λ_ hh=>hh.elim),λ_ _=>Heap.AN _ U⟩
   ·exact hx.elim
  ·exact hx.elim
 | panic y =>
  have hg:=ha.get y (by simp[Op.operands]);simp only[exec,hg]at hx ⊢;exact hx
 | call c =>
  obtain⟨callee,args,ts⟩:=c;cases callee with
  | value f =>
   have hg:=ha.get f (by simp[Op.operands,Call.operands]);simp only[exec,hg]at hx ⊢;split at hx
   ·obtain⟨vs,hx,h1⟩:=nL _ _ hx;refine tM _ _ (λx hm=>ha.get x (by simp[Op.operands,Call.operands,Array.mem_toList_iff.1 hm])) (h1 _ ?_);refine Cy hx λs bx h' hK hs Mq hle=>hk _ _ _ hK ?_;obtain⟨v,rfl⟩:=hs;subst Mq;refine⟨(λ_ _ hh=>by cases hh),(λ_ hh=>hh.elim),λ_ hA=>hle ?_⟩;cases hm:Pk F f with
    | true=>exact absurd (by simp only[cls,hm]) hA
    | false=>rfl
   ·exact hx.elim
  | invoke r m=>exact kF _ rfl hx
  | builtin b =>
   cases b with
   | len =>
    simp only[exec]at hx ⊢;split at hx
    ·rename_i y hargs;have hg:=ha.get y (by simp[Op.operands,Call.operands,Array.mem_toList_iff.1 (show y∈args.toList by rw[hargs];simp)]);simp only[hg];split at hx
     ·split at hx
      ·exact oP _ hx
      ·exact hx.elim
     ·split at hx
      ·exact oP _ hx
      ·exact hx.elim
     ·exact kF _ rfl hx
    ·exact hx.elim
   | max =>
    simp only[exec]at hx ⊢;split at hx
    ·rename_i y z hargs;have Cz:=ha.get y (by simp[Op.operands,Call.operands,Array.mem_toList_iff.1 (show y∈args.toList by rw[hargs];simp)]);have CA:=ha.get z (by simp[Op.operands,Call.operands,Array.mem_toList_iff.1 (show z∈args.toList by rw[hargs];simp)]);simp only[Cz,CA];split at hx
     ·split at hx
      ·exact oP _ hx
      ·exact kF _ rfl hx
     ·exact kF _ rfl hx
    ·exact kF _ rfl hx
   | min =>
    simp only[exec]at hx ⊢;split at hx
    ·rename_i y z hargs;have Cz:=ha.get y (by simp[Op.operands,Call.operands,Array.mem_toList_iff.1 (show y∈args.toList by rw[hargs];simp)]);have CA:=ha.get z (by simp[Op.operands,Call.operands,Array.mem_toList_iff.1 (show z∈args.toList by rw[hargs];simp)]);simp only[Cz,CA];split at hx
     ·split at hx
      ·exact oP _ hx
      ·exact kF _ rfl hx
     ·exact kF _ rfl hx
    ·exact kF _ rfl hx
   | cap =>
    simp only[exec]at hx ⊢;split at hx
    ·rename_i y hargs;have hg:=ha.get y (by simp[Op.operands,Call.operands,Array.mem_toList_iff.1 (show y∈args.toList by rw[hargs];simp)]);simp only[hg];split at hx
     ·split at hx
      ·exact oP _ hx
      ·exact hx.elim
     ·exact kF _ rfl hx
    ·exact hx.elim
   | append =>
    simp only[exec]at hx ⊢;split at hx
    ·rename_i y z t u hargs FM;have Cz:=ha.get y (by simp[Op.operands,Call.operands,Array.mem_toList_iff.1 (show y∈args.toList by rw[hargs];simp)]);have hmz:z∈(⟨dst,.call ⟨.builtin .append,args,ts⟩,ty,pos,after,guard⟩:Oper).op.operands:=by
      simp[Op.operands,Call.operands,Array.mem_toList_iff.1 (show z∈args.toList by rw[hargs];simp)]
     have CA:=ha.get z hmz;have U:∀ u,(e.get z).refs u->e'.b u=e.b u:=by
      rcases ha.box with hc|U
      ·simp[cls]at hc
      ·exact U z hmz
     simp only[Cz,CA];split at hx
     ·split at hx
      ·split at hx
       ·obtain⟨m,vs,hx,h1⟩:=Eo (e':=e') U hx;exact h1 _ (hx.mono λv h' hv=>hk _ _ _ hv ⟨(λ_ _ hh=>by cases hh),(λ_ hh=>hh.elim),λ_ hc=>absurd (by simp[cls]) hc⟩)
       ·exact hx.elim
      ·exact hx.elim
     ·exact kF _ rfl hx
    ·exact hx.elim
   | _=>exact kF _ rfl hx
 | _=>exact kF _ rfl hx
def gd (ops:Array Oper) (o:Oper) (e:Env):Option Bool :=
 match o.guard with
 | none=>some true
 | some (j,w)=>match ops[j]? with
  | none=>some false
  | some o'=>match o'.dst with
   | none=>some false
   | some d=>match e.s d with
    | .v (.bool b)=>some (b==w)
    | .v (.tuple _)=>some false
    | _=>none
def one (P:Program) (S:nH) (F:Fs) (ops:Array Oper) (o:Oper) (e:Env) (h:Heap) (K:Env->Heap->Prop) (E:List PanicEntry->Heap->Prop):Prop :=
 match gd ops o e with
 | some true=>exec P S F true o e h (λs bx h'=>K (e.put o.dst s bx) h') E
 | some false=>K (e.put o.dst (.v undef) none) h
 | none=>False
theorem IM {d:Nat} {s:Slot} (hs:e.s d=s):e.put (some d) s none=e:=by
 unfold Env.put;cases e with
 | mk es eb =>
  simp only at hs ⊢;congr 1
  funext t
  split
  ·rename_i hh;rw[hh,hs]
  ·rfl
theorem jU {ops:Array Oper} {K:Env->Heap->Prop}:tI P S F true ops.toList o e h K E↔one P S F ops o e h K E:=by
 unfold tI one guardOf gd;cases hg:o.guard with
 | none=>exact Iff.rfl
 | some jw =>
  obtain⟨j,w⟩:=jw;simp only[vm,Array.getElem?_toList];cases ho:ops[j]? with
  | none=>exact Iff.rfl
  | some o' =>
   simp only;cases hd:o'.dst with
   | none=>exact Iff.rfl
   | some d =>
    simp only;cases hs:e.s d with
    | v x =>
     cases x with
     | bool b =>
      simp only;cases b<;>cases w<;>simp only[IM hs]<;>exact Iff.rfl
     | _=>exact Iff.rfl
    | _=>exact Iff.rfl
def wT (P:Program) (S:nH) (F:Fs) (ops:Array Oper) (K:Env->Heap->Prop) (E:List PanicEntry->Heap->Prop):Nat->Array Bool->Env->Heap->Prop
 | 0,aZ,e,h=>Region.ready .any ops aZ=[]/\K e h
 | k+1,aZ,e,h=>(Region.ready .any ops aZ=[]->K e h) /\
  ∀ i∈Region.ready .any ops aZ,∃ o,ops[i]? = some o/\one P S F ops o e h (λe' h'=>wT P S F ops K E k (aZ.setIfInBounds i true) e' h') E
theorem sJ {n:Nat} (hS:dn P S) {ops:Array Oper} (hd:∀ o∈ops.toList,∀ d',o.dst=some d'->d' < n) {K:Env->Heap->Prop} {Q:Exit->Act->World->Prop} {h0:Heap} {w0:World}
  (hk:∀ e' h' qU a' w',K e' h'->Rel D n h0 w0 qU e' h' a' w'->Q .normal a' w')
  (hE:∀ c h' a' w',E c h'->cP h0 w0 h' w'->a'.defers=D->Q (.panic c) a' w') :
  ∀(k:Nat) (aZ:Array Bool) (e:Env) (h:Heap) (β:Nat->Nat) (a:Act) (w:World),wT P S F ops K E k aZ e h->Rel D n h0 w0 β e h a w->wpAny P .any ops Q k aZ a w
 | 0,aZ,e,h,β,a,w,hx,r=>⟨hx.1,hk _ _ β _ _ hx.2 r⟩
 | k+1,aZ,e,h,β,a,w,hx,r=>⟨λh0=>hk _ _ β _ _ (hx.1 h0) r,λi hi=>by
   obtain⟨o,ho,h1⟩:=hx.2 i hi;exact qm hS ho r (hd o (by rw[<-Array.getElem?_toList]at ho;exact List.mem_of_getElem? ho)) (jU.2 h1) (λe' h' qU a' w' hK hR=>sJ hS hd hk hE k _ e' h' qU a' w' hK hR) hE⟩
def WF (e:Env):Prop:=∀ t u,(e.s t).refs u->(e.b u).isSome
theorem WF.get (hw:WF e) {y:Operand} {u:Nat} (hr:(e.get y).refs u):(e.b u).isSome:=by
 cases y with
 | tmp t=>exact hw t u hr
 | _=>exact hr.elim
theorem Rel.wf {n:Nat} {h0:Heap} {w0:World} {β:Nat->Nat} {a:Act} {w:World} (r:Rel D n h0 w0 β e h a w):WF e:=by
 intro t u hr;have:=r.slot t;revert hr this
 cases e.s t<;>intro hr this<;>first|exact hr.elim|(cases hr;exact this.2)
theorem Ep (hw:WF e) {d:Option Nat} {s:Slot} {bx:Bx} (hs:∀ u,s.refs u->(e.b u).isSome\/∃ cs,bx=some (u,cs)):WF (e.put d s bx):=by
 have U:∀ u,((e.b u).isSome\/∃ cs,bx=some (u,cs))->((e.put d s bx).b u).isSome:=by
  intro u hu;unfold Env.put;cases bx with
  | none =>
   rcases hu with hu|⟨cs,hh⟩
   ·exact hu
   ·cases hh
  | some uc =>
   obtain⟨u',jt⟩:=uc;simp only;split
   ·rfl
   ·rename_i cD;rcases hu with hu|⟨cs,hh⟩
    ·exact hu
    ·simp only[Option.some.injEq,Prod.mk.injEq]at hh;exact absurd hh.1.symm cD
 intro t u hr;cases d with
 | none=>exact U u (.inl (hw t u hr))
 | some d =>
  simp only[Env.put]at hr;split at hr
  ·exact U u (hs u hr)
  ·exact U u (.inl (hw t u hr))
theorem FP {d:Option Nat} {s:Slot} {bx:Bx} {y:Operand} (cD:∀ d',d=some d'->y≠.tmp d'):(e.put d s bx).get y=e.get y:=by
 cases y with
 | tmp t =>
  cases d with
  | none=>rfl
  | some d =>
   have:t≠d:=λhh=>cD d rfl (by rw[hh]);simp[Env.get,Env.put,this]
 | _=>rfl
theorem CB {d:Option Nat} {s:Slot} {bx:Bx} {u:Nat} (cD:∀ u' cs,bx=some (u',cs)->u≠u'):(e.put d s bx).b u=e.b u:=by
 cases bx with
 | none=>rfl
 | some uc=>obtain⟨u',cs⟩:=uc;simp[Env.put,cD u' cs rfl]
theorem put_comm {d d':Option Nat} {s s':Slot} {bx PB:Bx} (hd:∀ t,d=some t->d'≠some t) (U:∀ u cs,bx=some (u,cs)->∀ u' jt,PB=some (u',jt)->u≠u') :
  (e.put d s bx).put d' s' PB=(e.put d' s' PB).put d s bx:=by
 unfold Env.put;congr 1
 ·cases d with
  | none=>rfl
  | some t =>
   cases d' with
   | none=>rfl
   | some t' =>
    have cD:t≠t':=λhh=>hd t rfl (by rw[hh]);funext k
    simp only;by_cases h1:k=t
    ·subst h1;simp[cD]
    ·simp[h1]
 ·cases bx with
  | none=>rfl
  | some uc =>
   cases PB with
   | none=>rfl
   | some uc' =>
    obtain⟨u,cs⟩:=uc;obtain⟨u',jt⟩:=uc';have cD:u≠u':=U u cs rfl u' jt rfl;funext k
    simp only;by_cases h1:k=u
    ·subst h1;simp[cD]
    ·simp[h1]
theorem Er {ops:Array Oper} {d:Option Nat} {s:Slot} {bx:Bx} (cD:∀ d',d=some d'->d' ∉ o.looksAt ops):gd ops o (e.put d s bx)=gd ops o e:=by
 unfold gd;cases hg:o.guard with
 | none=>rfl
 | some jw =>
  obtain⟨j,w⟩:=jw;simp only;cases ho:ops[j]? with
  | none=>rfl
  | some o' =>
   simp only;cases hd:o'.dst with
   | none=>rfl
   | some t =>
    simp only;have:(e.put d s bx).s t=e.s t:=by
     cases d with
     | none=>rfl
     | some d =>
      have:t≠d:=λhh=>cD d rfl (by simp[Oper.looksAt,hg,ho,hd,hh]);simp[Env.put,this]
    rw[this]
theorem CC {ops:Array Oper} {d:Option Nat} (cD:∀ d',d=some d'->d' ∉ o.looksAt ops) {y:Operand} (hy:y∈o.op.operands):∀ d',d=some d'->y≠.tmp d':=by
 intro d' hd hh;refine cD d' hd ?_;unfold Oper.looksAt;refine List.mem_append.2 (.inl (List.mem_filterMap.2 ⟨y,Array.mem_toList_iff.2 hy,by rw[hh]⟩))
def FQ:dR->dR->Bool
 | .P,_=>true
 | .L,.W=>false
 | .L,_=>true
 | .R,.W=>false
 | .R,.A=>false
 | .R,_=>true
 | _,_=>false
structure Mr (P:Program) (S:nH) (F:Fs) (ops:Array Oper) (o:Oper) (e:Env) (h:Heap) (s:Slot) (bx:Bx):Prop where
 run:(gd ops o e=some true/\∀(h':Heap) (K:Slot->Bx->Heap->Prop) (E:List PanicEntry->Heap->Prop),(cls F o=.R->h.le h')->K s bx h'->exec P S F true o e h' K E) \/
  (gd ops o e=some false/\s=.v undef/\bx=none)
 fb:∀ u cs,bx=some (u,cs)->o.dst=some u/\e.b u=none
 fs:∀ u,s.refs u->(∃ y∈o.op.operands,(e.get y).refs u)\/∃ cs,bx=some (u,cs)
theorem Mr.one {ops:Array Oper} {s:Slot} {bx:Bx} (st:Mr P S F ops o e h s bx) {K:Env->Heap->Prop} (hK:K (e.put o.dst s bx) h):one P S F ops o e h K E:=by
 unfold Vc.one;rcases st.run with ⟨h1,h2⟩|⟨h1,rfl,rfl⟩
 ·simp only[h1];exact h2 h _ _ (λ_=>Heap.le_refl h) hK
 ·simp only[h1];exact hK
theorem front {ops:Array Oper} {K:Env->Heap->Prop} {i:Nat} {oi:Oper} (hi:ops[i]? = some oi) (Yg:cls F oi=.P\/cls F oi=.L\/cls F oi=.R) {s:Slot} {bx:Bx} :
  ∀(k:Nat) (aZ:Array Bool) (e:Env) (h:Heap),WF e ->
   (∀ j oj,ops[j]? = some oj->j≠i->aZ.getD j true=false->(∀ d∈oj.after,Region.binds .any d=true->d.on≠i)->oi.apart ops oj=true/\FQ (cls F oi) (cls F oj)=true) ->
   i∈Region.ready .any ops aZ->Mr P S F ops oi e h s bx ->
   wT P S F ops K E k (aZ.setIfInBounds i true) (e.put oi.dst s bx) h->wT P S F ops K E (k+1) aZ e h:=by
 intro k;induction k with
 | zero =>
  intro aZ e h hw lS hr st H;refine⟨λh0=>(by rw[h0]at hr;cases hr),λj hj=>?_⟩;by_cases jv:j=i
  ·subst jv;exact⟨oi,hi,st.one H⟩
  ·have:=ready_mono hj jv;rw[H.1]at this;cases this
 | succ k ih =>
  intro aZ e h hw lS hr st H;refine⟨λh0=>(by rw[h0]at hr;cases hr),λj hj=>?_⟩;by_cases jv:j=i
  ·subst jv;exact⟨oi,hi,st.one H⟩
  ·obtain⟨oj,Zc,h1⟩:=H.2 j (ready_mono hj jv);refine⟨oj,Zc,?_⟩;obtain⟨Sz,oj',SA,dQ⟩:=mem_ready.1 hj;rw[Zc]at SA;cases SA
   have Zd:∀ d∈oj.after,Region.binds .any d=true->d.on≠i:=λd hd U heq=>by
    have h1:=dQ d hd U;have h0:=(mem_ready.1 hr).1;rw[heq]at h1;rcases Nat.lt_or_ge i aZ.size with h'|h'
    ·simp[h']at h0 h1;rw[h0]at h1;cases h1
    ·simp[Array.getElem?_eq_none h']at h1
   obtain⟨hap,lq⟩:=lS j oj Zc jv Sz Zd;obtain⟨a1,a2,a3⟩:=Oper.apart_spec hap;have lT:∀ y∈oj.op.operands,(e.put oi.dst s bx).get y=e.get y:=λy hy=>FP (CC a1 hy);have SB:∀(d:Option Nat) (s':Slot) (PB:Bx),d=oj.dst->∀ y∈oi.op.operands,(e.put d s' PB).get y=e.get y:=λd s' PB hd y hy=>FP (by rw[hd];exact CC a3 hy);have PC:∀ k' ok,ops[k']? = some ok->k'≠i->(aZ.setIfInBounds j true).getD k' true=false->(∀ d∈ok.after,Region.binds .any d=true->d.on≠i)->oi.apart ops ok=true/\FQ (cls F oi) (cls F ok)=true:=λk' ok hk hki Yh PD=>by
    refine lS k' ok hk hki ?_ PD;by_cases FK:j=k'
    ·subst FK;exact Sz
    ·rw[getD_set_ne true FK]at Yh;exact Yh
   have step:∀ sj LC h',wT P S F ops K E k ((aZ.setIfInBounds i true).setIfInBounds j true) ((e.put oi.dst s bx).put oj.dst sj LC) h'->xe F oj (e.put oi.dst s bx) h sj LC h' ->
     wT P S F ops K E (k+1) (aZ.setIfInBounds j true) (e.put oj.dst sj LC) h':=by
    intro sj LC h' hA hR;have hbj:∀ u cs,LC=some (u,cs)->(oj.dst=some u/\e.b u=none)\/((e.b u).isSome/\cls F oj=.W):=by
     intro u cs hh;rcases hR.fb u cs hh with ⟨h1,h2⟩|⟨h1,y,hy,h2⟩
     ·refine .inl ⟨h1,?_⟩;cases bx with
      | none=>exact h2
      | some uc =>
       obtain⟨u',jt⟩:=uc;by_cases hu:u=u'
       ·subst hu;exact(st.fb u jt rfl).2
       ·rw[CB (λu'' Ze SC=>by simp only[Option.some.injEq,Prod.mk.injEq]at SC;rw[<-SC.1];exact hu)]at h2;exact h2
     ·rw[lT y hy]at h2;exact .inr ⟨hw.get h2,h1⟩
    have SD:∀ u cs,LC=some (u,cs)->∀ t,oi.dst=some t->e.b t=none->t≠u:=by
     intro u cs hh t ht U heq;subst heq;rcases hbj _ _ hh with ⟨h1,_⟩|⟨h1,_⟩
     ·exact a2 t ht h1
     ·rw[U]at h1;cases h1
    have Ck:WF (e.put oj.dst sj LC):=Ep hw λu hu=>by
     rcases hR.fs u hu with ⟨y,hy,IN⟩|hh
     ·rw[lT y hy]at IN;exact .inl (hw.get IN)
     ·exact .inr hh
    have iZ:N2 F oi e (e.put oj.dst sj LC):={
     get:=SB _ _ _ rfl
     box:=by
      rcases Yg with hc|hc
      ·exact .inl hc
      ·right
       intro y hy u hu;refine CB λu' jt hh heq=>?_;subst heq;rcases hbj _ _ hh with ⟨_,h2⟩|⟨_,h2⟩
       ·have:=hw.get hu;rw[h2]at this;cases this
       ·rw[h2]at lq;rcases hc with hc|hc<;>rw[hc]at lq<;>cases lq
     dst:=λt ht U=>by rw[CB (λu' jt hh=>SD u' jt hh t ht U)];exact U}
    refine ih _ _ _ Ck PC (ready_mono hr (Ne.symm jv)) ?_ ?_
    ·refine⟨?_,λu cs hh=>⟨(st.fb u cs hh).1,iZ.dst u (st.fb u cs hh).1 (st.fb u cs hh).2⟩,λu hu=>?_⟩
     ·rcases st.run with ⟨g1,g2⟩|⟨g1,g2,g3⟩
      ·refine .inl ⟨by rw[Er a3];exact g1,λzw K' E' hle hk=>?_⟩;have:=g2 zw K' E' (λhc=>?_) hk
       ·exact nM iZ this (λs bx h' hK _=>hK)
       ·refine Heap.le_trans (hR.le ?_ ?_) (hle hc)
        ·intro oQ;rw[hc,oQ]at lq;cases lq
        ·intro oQ;rw[hc,oQ]at lq;cases lq
      ·exact .inr ⟨by rw[Er a3];exact g1,g2,g3⟩
     ·rcases st.fs u hu with ⟨y,hy,IN⟩|hh
      ·exact .inl ⟨y,hy,by rw[iZ.get y hy];exact IN⟩
      ·exact .inr hh
    ·rw[Array.setIfInBounds_comm _ _ jv,put_comm (λt ht=>λhh=>a2 t hh ht) (λu cs hu u' jt hu' heq=>?_)]
     ·exact hA
     ·subst heq;obtain⟨g1,g2⟩:=st.fb _ _ hu';exact SD _ _ hu _ g1 g2 rfl
   unfold one at h1 ⊢;rw[Er a1]at h1;split at h1
   ·rename_i hg;simp only[hg];refine nM (o:=oj) (e:=e.put oi.dst s bx) ⟨λy hy=>(lT y hy).symm,?_,?_⟩ h1 (λsj LC h' hA hR=>step sj LC h' hA hR)
    ·right
     intro y hy u hu;rw[lT y hy]at hu;refine(CB λu' jt hh heq=>?_).symm;subst heq;have:=hw.get hu;rw[(st.fb _ _ hh).2]at this;cases this
    ·intro t ht U;cases bx with
     | none=>exact U
     | some uc =>
      obtain⟨u',jt⟩:=uc;by_cases hu:t=u'
      ·subst hu;exact(st.fb t jt rfl).2
      ·rw[CB (λu'' Ze SC=>by simp only[Option.some.injEq,Prod.mk.injEq]at SC;rw[<-SC.1];exact hu)]at U;exact U
   ·rename_i hg;simp only[hg];exact step _ _ _ h1 xe.plain
   ·exact h1.elim
def CD (F:Fs) (ops:Array Oper):List Nat->Array Bool->Bool
 | [],aZ=>(Region.ready .any ops aZ).isEmpty
 | i::r,aZ=>(Region.ready .any ops aZ).contains i&&(match ops[i]? with
  | none=>false
  | some oi=>((match cls F oi with | .P=>true | .L=>true | .R=>true|_=>false)&&(List.range ops.size).all λj=>j==i||aZ.getD j true||match ops[j]? with
    | some oj=>(oj.after.any λd=>Region.binds .any d&&d.on==i)||(oi.apart ops oj&&FQ (cls F oi) (cls F oj))
    | none=>true)||Region.ready .any ops aZ == [i])&&CD F ops r (aZ.setIfInBounds i true)
theorem IP {ops:Array Oper} {K:Env->Heap->Prop} (hw:WF e) (hx:one P S F ops o e h K E):one P S F ops o e h (λe' h'=>WF e'/\K e' h') E:=by
 unfold one at hx ⊢;split at hx
 ·refine nM (e:=e) ⟨λ_ _=>rfl,.inr λ_ _ _ _=>rfl,λ_ _ h=>h⟩ hx (λs bx h' hA hR=>⟨Ep hw λu hu=>?_,hA⟩);rcases hR.fs u hu with ⟨y,hy,hr⟩|hh
  ·exact .inl (hw.get hr)
  ·exact .inr hh
 ·exact⟨Ep hw λu hu=>hu.elim,hx⟩
 ·exact hx.elim
theorem tO {ops:Array Oper} {K K':Env->Heap->Prop} (hx:one P S F ops o e h K E) (hk:∀ e' h',K e' h'->K' e' h'):one P S F ops o e h K' E:=by
 unfold one at hx ⊢;split at hx
 ·exact nM (e:=e) ⟨λ_ _=>rfl,.inr λ_ _ _ _=>rfl,λ_ _ h=>h⟩ hx (λs bx h' hA _=>hk _ _ hA)
 ·exact hk _ _ hx
 ·exact hx.elim
theorem IQ {ops:Array Oper} {K:Env->Heap->Prop} (hc:cls F o=.P\/cls F o=.L\/cls F o=.R) (hx:one P S F ops o e h K E):∃ s bx,Mr P S F ops o e h s bx/\K (e.put o.dst s bx) h:=by
 unfold one at hx;split at hx
 ·rename_i hg;have iM:=nM (e:=e) ⟨λ_ _=>rfl,.inr λ_ _ _ _=>rfl,λ_ _ h=>h⟩ hx (λs bx h' hA hR=>(⟨hA,hR⟩:K (e.put o.dst s bx) h'/\xe F o e h s bx h'));have Zf:∀ s bx,xe F o e h s bx h->∀ u cs,bx=some (u,cs)->o.dst=some u/\e.b u=none:=by
   intro s bx hR u cs hh;rcases hR.fb u cs hh with h1|⟨h1,_⟩
   ·exact h1
   ·rcases hc with hc|hc|hc<;>rw[hc]at h1<;>cases h1
  by_cases oQ:cls F o=.R
  ·have SE:∃ s,(K (e.put o.dst s none) h/\xe F o e h s none h)/\∀(h':Heap) (K':Slot->Bx->Heap->Prop) (E':List PanicEntry->Heap->Prop),h.le h'->K' s none h'->exec P S F true o e h' K' E':=by
    obtain⟨dst,op,ty,pos,after,guard⟩:=o;cases op with
    | load t y =>
     have hl:Ih F.LL dst=false:=by
      simp only[cls]at oQ;split at oQ
      ·cases oQ
      ·assumption
     simp only[exec]at iM ⊢;split at iM
     ·rename_i ti cO;simp only[hl]at iM;obtain⟨s,h1,h2⟩:=Cu iM;exact⟨s,h1,λh' K' E' hle hk=>by simp only[hl];exact h2 h' K' hle hk⟩
     ·exact iM.elim
    | call c =>
     obtain⟨callee,args,ts⟩:=c;cases callee with
     | value f=>simp only[cls]at oQ;split at oQ<;>cases oQ
     | invoke r m=>cases oQ
     | builtin b=>cases b<;>cases oQ
    | alloc t=>simp only[cls]at oQ;split at oQ<;>cases oQ
    | box t y=>simp only[cls]at oQ;split at oQ<;>cases oQ
    | buildSlice t k ps=>simp only[cls]at oQ;split at oQ<;>cases oQ
    | _=>cases oQ
   obtain⟨s,⟨h1,h2⟩,h3⟩:=SE;exact⟨s,none,⟨.inl ⟨hg,λh' K' E' hle hk=>h3 h' K' E' (hle oQ) hk⟩,Zf _ _ h2,h2.fs⟩,h1⟩
  ·obtain⟨s,bx,⟨h1,h2⟩,h3⟩:=IL (by
    rcases hc with hc|hc|hc
    ·exact .inl hc
    ·exact .inr hc
    ·exact absurd hc oQ) iM
   exact⟨s,bx,⟨.inl ⟨hg,λh' K' E' _ hk=>h3 h' K' E' hk⟩,Zf _ _ h2,h2.fs⟩,h1⟩
 ·rename_i hg;exact⟨_,_,⟨.inr ⟨hg,rfl,rfl⟩,(λ_ _ hh=>by cases hh),λ_ hh=>hh.elim⟩,hx⟩
 ·exact hx.elim
def FR (F:Fs) (ops:Array Oper) (i:Nat) (aZ:Array Bool):Bool :=
 (Region.ready .any ops aZ).contains i&&(match ops[i]? with
  | none=>false
  | some oi=>((match cls F oi with | .P=>true | .L=>true | .R=>true|_=>false)&&(List.range ops.size).all λj=>j==i||aZ.getD j true||match ops[j]? with
    | some oj=>(oj.after.any λd=>Region.binds .any d&&d.on==i)||(oi.apart ops oj&&FQ (cls F oi) (cls F oj))
    | none=>true)||Region.ready .any ops aZ == [i])
theorem xO {ops:Array Oper} {K:Env->Heap->Prop} {i:Nat} {oi:Oper} {k:Nat} {aZ:Array Bool} {e:Env} {h:Heap} (hn:FR F ops i aZ=true) (hi:ops[i]? = some oi) (hw:WF e)
  (hx:tI P S F true ops.toList oi e h (λe' h'=>WF e'->wT P S F ops K E k (aZ.setIfInBounds i true) e' h') E):wT P S F ops K E (k+1) aZ e h:=by
 simp only[FR,Bool.and_eq_true,hi]at hn;obtain⟨h1,h2⟩:=hn;have hr:i∈Region.ready .any ops aZ:=by simpa using h1
 have hx:=IP hw (jU.1 hx);have hx:=tO hx (λe' h' hh=>hh.2 hh.1);simp only[Bool.or_eq_true]at h2;rcases h2 with h2|h2
 ·simp only[Bool.and_eq_true]at h2;obtain⟨h4,h5⟩:=h2;have hc:cls F oi=.P\/cls F oi=.L\/cls F oi=.R:=by
   revert h4
   cases cls F oi<;>simp
  obtain⟨s,bx,st,hK⟩:=IQ hc hx;refine front hi hc k aZ e h hw (λj oj hj cD Yh PD=>?_) hr st hK;have iS:j < ops.size:=(Array.getElem?_eq_some_iff.1 hj).1;have:=List.all_eq_true.1 h5 j (by simpa using iS);simp only[hj,Bool.or_eq_true,Yh]at this;rcases this with (h6|h6)|h6
  ·exact absurd (by simpa using h6) cD
  ·cases h6
  ·rcases h6 with h6|h6
   ·exfalso;obtain⟨k,hk,hd⟩:=Array.any_eq_true.1 h6;simp only[Bool.and_eq_true]at hd;exact PD _ (Array.getElem_mem hk) hd.1 (by simpa using hd.2)
   ·simpa using h6
 ·have hre:Region.ready .any ops aZ=[i]:=by simpa using h2
  refine⟨λh0=>(by rw[hre]at h0;cases h0),λj hj=>?_⟩;rw[hre]at hj;simp only[List.mem_singleton]at hj;subst hj;exact⟨oi,hi,hx⟩
theorem xP {ops:Array Oper} {K:Env->Heap->Prop}:∀(p:List Nat) (aZ:Array Bool) (e:Env) (h:Heap),CD F ops p aZ=true->WF e->Mf P S F true ops.toList K E p e h->wT P S F ops K E p.length aZ e h
 | [],aZ,e,h,hp,_,hx=>⟨by simpa [CD]using hp,hx⟩
 | i::r,aZ,e,h,hp,hw,hx=>by
  simp only[CD,Bool.and_eq_true]at hp;obtain⟨⟨h1,h2⟩,h3⟩:=hp;simp only[Mf,vm,Array.getElem?_toList]at hx;cases hi:ops[i]? with
  | none=>rw[hi]at hx;exact hx.elim
  | some oi =>
   simp only[hi]at hx;refine xO (by unfold FR;rw[h1];exact h2) hi hw (jU.2 (tO (jU.1 hx) λe' h' hh RN=>xP r (aZ.setIfInBounds i true) e' h' h3 RN hh))
def PT.tP:PT->List Nat
 | .alt i _ r=>i::r.tP
 | _=>[]
def nO (F:Fs) (ops:Array Oper):PT->Bool->Nat->Array Bool->Bool
 | .nil,c,k,aZ=>!c&&k==0&&(Region.ready .any ops aZ).isEmpty
 | .fO,c,_,_=>c
 | .one i r,c,k,aZ=>!c&&(match k with
  | 0=>false
  | k+1=>FR F ops i aZ&&nO F ops r false k (aZ.setIfInBounds i true))
 | .alt i t r,c,k,aZ=>(match k with
  | 0=>false
  | k+1=>(c||(!(Region.ready .any ops aZ).isEmpty&&(Region.ready .any ops aZ).all λj=>(i::r.tP).contains j))&&nO F ops t false k (aZ.setIfInBounds i true)&&nO F ops r true (k+1) aZ)
theorem oR {ops:Array Oper} {K:Env->Heap->Prop}:∀(p:PT),
  (∀(k:Nat) (aZ:Array Bool) (e:Env) (h:Heap),nO F ops p false k aZ=true->WF e->tJ P S F ops.toList K E p e h->wT P S F ops K E k aZ e h) /\
  (∀(k:Nat) (aZ:Array Bool) (e:Env) (h:Heap),nO F ops p true (k+1) aZ=true->WF e->tJ P S F ops.toList K E p e h->∀ i∈p.tP,∃ o,ops[i]? = some o/\one P S F ops o e h (λe' h'=>wT P S F ops K E k (aZ.setIfInBounds i true) e' h') E)
 | .nil=>by
  refine⟨λk aZ e h hp hw hx=>?_,λk aZ e h hp hw hx i hi=>?_⟩
  ·simp only[nO,Bool.and_eq_true]at hp;have hk:k=0:=by simpa using hp.1.2
   subst hk;exact⟨by simpa using hp.2,hx⟩
  ·simp[PT.tP]at hi
 | .fO=>by
  refine⟨λk aZ e h hp hw hx=>?_,λk aZ e h hp hw hx i hi=>?_⟩
  ·simp[nO]at hp
  ·simp[PT.tP]at hi
 | .one i r=>by
  refine⟨λk aZ e h hp hw hx=>?_,λk aZ e h hp hw hx j hj=>?_⟩
  ·simp only[nO,Bool.and_eq_true]at hp;cases k with
   | zero=>simp at hp
   | succ k =>
    simp only[Bool.and_eq_true]at hp;obtain⟨_,h1,h3⟩:=hp;simp only[tJ,vm,Array.getElem?_toList]at hx;cases hi:ops[i]? with
    | none=>rw[hi]at hx;exact hx.elim
    | some oi =>
     simp only[hi]at hx;exact xO h1 hi hw (jU.2 (tO (jU.1 hx) λe' h' hh RN=>(oR r).1 k _ e' h' h3 RN hh))
  ·simp[PT.tP]at hj
 | .alt i t r=>by
  have key:∀(c:Bool) (k:Nat) (aZ:Array Bool) (e:Env) (h:Heap),nO F ops (.alt i t r) c (k+1) aZ=true->WF e->tJ P S F ops.toList K E (.alt i t r) e h->∀ j∈(PT.alt i t r).tP,∃ o,ops[j]? = some o/\one P S F ops o e h (λe' h'=>wT P S F ops K E k (aZ.setIfInBounds j true) e' h') E:=by
   intro c k aZ e h hp hw hx j hj;simp only[nO,Bool.and_eq_true]at hp;obtain⟨⟨_,h2⟩,h3⟩:=hp;simp only[tJ,vm,Array.getElem?_toList]at hx;simp only[PT.tP,List.mem_cons]at hj;rcases hj with rfl|hj
   ·have hx:=hx.1;cases hi:ops[j]? with
    | none=>rw[hi]at hx;exact hx.elim
    | some oi =>
     simp only[hi]at hx;exact⟨oi,rfl,tO (IP hw (jU.1 hx)) λe' h' hh=>(oR t).1 k _ e' h' h2 hh.1 hh.2⟩
   ·exact(oR r).2 k aZ e h h3 hw hx.2 j hj
  refine⟨λk aZ e h hp hw hx=>?_,λk aZ e h hp hw hx=>key true k aZ e h hp hw hx⟩;cases k with
  | zero=>simp[nO]at hp
  | succ k =>
   have hk:=key false k aZ e h hp hw hx;simp only[nO,Bool.and_eq_true,Bool.false_or]at hp;obtain⟨⟨⟨h0,h1⟩,_⟩,_⟩:=hp;refine⟨λhe=>(by rw[he]at h0;simp at h0),λj hj=>hk j ?_⟩;have:=List.all_eq_true.1 h1 j hj;simpa [PT.tP]using this
def Code.jB (F:Fs):Code->Bool
 | .region id ops dr=>match dr with
  | true=>match Eb id F.cr with
   | some p=>p.length==ops.size&&CD F ops p (Array.replicate ops.size false)
   | none=>match Ec id F.trees with
    | some t=>nO F ops t false ops.size (Array.replicate ops.size false)
    | none=>true
  | false=>true
 | .seq a b=>Code.jB F a&&Code.jB F b
 | .cond _ a b=>Code.jB F a&&Code.jB F b
 | .block _ c=>Code.jB F c
 | .loop c=>Code.jB F c
 | .scope c=>Code.jB F c
 | _=>true
theorem oS {n:Nat} (hS:dn P S):∀ c:Code,Code.kg n c=true->Code.jB F c=true->Code.j6 P S F n c:=by
 intro c;induction c with
 | region id ops dr =>
  intro hd hp;cases dr with
  | false=>trivial
  | true =>
   intro D K E Q h0 w0 β e h a w hx r hk hE;unfold drawn at hx;simp only[Code.jB]at hp;split at hx
   ·rename_i p fV;simp only[fV,Bool.and_eq_true]at hp;have hl:p.length=ops.size:=by simpa using hp.1
    have:=xP p _ e h hp.2 r.wf hx;rw[hl]at this;exact sJ hS (sI hd) hk hE _ _ _ _ _ _ _ this r
   ·rename_i fV;simp only[fV]at hp;split at hx
    ·rename_i t kS;simp only[kS]at hp;exact sJ hS (sI hd) hk hE _ _ _ _ _ _ _ ((oR t).1 _ _ e h hp r.wf hx) r
    ·exact hx.elim
 | seq a b Zg Zh =>
  intro hd hp;simp only[Code.kg,Code.jB,Bool.and_eq_true]at hd hp;exact⟨Zg hd.1 hp.1,Zh hd.2 hp.2⟩
 | cond c a b Zg Zh =>
  intro hd hp;simp only[Code.kg,Code.jB,Bool.and_eq_true]at hd hp;exact⟨Zg hd.1 hp.1,Zh hd.2 hp.2⟩
 | block id c ih=>exact λhd hp=>ih hd hp
 | loop c ih=>exact λhd hp=>ih hd hp
 | scope c ih=>exact λhd hp=>ih hd hp
 | _=>intro _ _;trivial
def aQ (F:Fs) (fn:Func) (k:Nat):Bool:=match fn.body with
 | some c=>Nat.ble k fn.ntmps&&Code.kg fn.ntmps c&&Code.jB F c
 | none=>false
def Goal (P:Program) (S:nH) (F:Fs) (fn:Func) (args:List Value) (h:Heap) (R:Out->Heap->Prop):Prop:=match fn.body with
 | some c=>den P S F c (Fin S fn.results.toList R) (ki args) h
 | none=>False
theorem calls {S:nH} (hS:dn P S) {f:FuncId} {fn:Func} (hf:P.funcs[f]? = some fn) (F:Fs) {args:List Value} (ez:aQ F fn args.length=true) {h:Heap} {R:Out->Heap->Prop} (hx:Goal P S F fn args h R):cH P f args h R:=by
 unfold aQ at ez;unfold Goal at hx;cases U:fn.body with
 | none=>rw[U]at ez;cases ez
 | some c =>
  simp only[U,Bool.and_eq_true]at ez hx;exact AM hS F hf U (Nat.le_of_ble_eq_true ez.1.1) ez.1.2 (oS hS c ez.1.2 ez.2) hx
open Go.RowKit
def bI (P:Program) (f:FuncId) (args:List Value) (h:Heap) (R:Value->Heap->Prop):Prop :=
 cH P f args h λo h'=>match o with
  | .ret v=>R v h'
  | .lE _=>False
def Pure (P:Program) (f:FuncId) (args:List Value) (h:Heap) (x:Value):Prop:=bI P f args h λv h'=>v=x/\h'=h
variable {P:Program} {f:FuncId} {args:List Value} {h:Heap} {K:Value->Heap->Prop} {E:List PanicEntry->Heap->Prop} {R:Value->Heap->Prop} {w:World}
theorem aD (hc:bI P f args h R) (hk:∀ v h',R v h'->K v h'):Call P f args h K E:=by
 rw[tE];unfold xy;refine cH.mono hc λo h' hh=>?_;cases o with
 | ret v=>exact hk v h' hh
 | lE c=>exact hh.elim
theorem cE (hc:bI P f args h R) (hk:∀ v h',R v h'->h.le h'/\K v h'):jA P f args h K E:=by
 rw[qR];unfold vc;refine cH.mono hc λo h' hh=>?_;cases o with
 | ret v=>exact hk v h' hh
 | lE c=>exact hh.elim
theorem cW {R:Out->Heap->Prop} (hc:cH P f args h R) (hk:∀ v h',R (.ret v) h'->K v h') (he:∀ c h',R (.lE c) h'->E c h'):Call P f args h K E:=by
 rw[tE];unfold xy;refine cH.mono hc λo h' hh=>?_;cases o with
 | ret v=>exact hk v h' hh
 | lE c=>exact he c h' hh
theorem qZ {R:Out->Heap->Prop} (hc:cH P f args h R) (hk:∀ v h',R (.ret v) h'->h.le h'/\K v h') (he:∀ c h',R (.lE c) h'->E c h'):jA P f args h K E:=by
 rw[qR];unfold vc;refine cH.mono hc λo h' hh=>?_;cases o with
 | ret v=>exact hk v h' hh
 | lE c=>exact he c h' hh
theorem outs {S:nH} (hS:dn P S) {fn:Func} (hf:P.funcs[f]? = some fn) (F:Fs) {k:Nat} (ez:aQ F fn k=true) {R:Out->Heap->Prop} (hl:args.length=k) (hx:Goal P S F fn args h R):cH P f args h R:=by
 subst hl;exact calls hS hf F ez hx
theorem ay {x:Value} (hc:Pure P f args h x) (hk:K x h):Call P f args h K E:=aD hc (by rintro v h' ⟨rfl,rfl⟩;exact hk)
theorem aT {x:Value} (hc:Pure P f args h x) (hk:K x h):jA P f args h K E:=cE hc (by rintro v h' ⟨rfl,rfl⟩;exact⟨Heap.le_refl _,hk⟩)
theorem bI.mono {R':Value->Heap->Prop} (hc:bI P f args h R) (hr:∀ v h',R v h'->R' v h'):bI P f args h R' :=
 cH.mono hc λo h' hh=>by
  cases o with
  | ret v=>exact hr v h' hh
  | lE c=>exact hh.elim
theorem bS {S:nH} (hS:dn P S) {fn:Func} (hf:P.funcs[f]? = some fn) (F:Fs) {k:Nat} (ez:aQ F fn k=true) (hl:args.length=k) (hx:Goal P S F fn args h λo h'=>match o with
  | .ret v=>R v h'
  | .lE _=>False):bI P f args h R:=by
 subst hl;exact calls hS hf F ez hx
theorem cH.shrink {R R':Out->Heap->Prop} (hc:cH P f args h R) (hr:∀ o h',R o h'->∃ zw:Heap,zw.le h'/\R' o zw):cH P f args h R':=by
 intro w hv;refine(hc w hv).mono ?_;rintro e w' ⟨h',m,hm⟩;have key:∀ o,R o h'->∃ zw:Heap,cP h w zw w'/\R' o zw:=by
  intro o ho;obtain⟨zw,hl,hR⟩:=hr o h' ho;refine⟨zw,⟨λb x U=>m.view b x (hl b x U),m.aG,λb U=>m.xd b ?_,m.size,m.fz,m.out⟩,hR⟩;cases hh:zw b with
  | none=>exact absurd hh U
  | some x=>rw[hl b x hh];simp
 cases e with
 | returned v=>exact key _ hm
 | panicked c=>exact key _ hm
 | outgrown=>exact⟨h',m,hm⟩
def Zi (h h':Heap):Prop:=∀(b:Nat) (cs:Array Value) (t:TypeId) (z:Nat × Nat),h' b=some (Obj.cells cs t z)->z=(0,0)\/h b=some (Obj.cells cs t z)
theorem cH.fz {R:Out->Heap->Prop} (hc:cH P f args h R):cH P f args h λo h'=>R o h'/\Zi h h':=by
 intro w hv;refine(hc w hv).mono ?_;rintro e w' ⟨h',m,hm⟩;have hz:Zi h h':=λb cs t z U=>by
  rcases m.fz b cs t z (m.view b _ U)with hx|hx
  ·exact .inl hx
  ·rcases m.xd b (by rw[U];simp)with hd|hd
   ·cases hh:h b with
    | none=>exact absurd hh hd
    | some o =>
     have:=hv b o hh;rw[hx]at this;exact .inr this.symm
   ·have:=ey hx;omega
 refine⟨h',m,?_⟩;cases e with
 | returned v=>exact⟨hm,hz⟩
 | panicked c=>exact⟨hm,hz⟩
 | outgrown=>exact hm
theorem bI.fz (hc:bI P f args h R):bI P f args h λv h'=>R v h'/\Zi h h':=by
 refine cH.mono (cH.fz hc) λo h' hh=>?_;cases o with
 | ret v=>exact hh
 | lE c=>exact hh.1.elim
theorem gN {S:nH} (hS:dn P S) {fn:Func} (hf:P.funcs[f]? = some fn) (F:Fs) {k:Nat} (ez:aQ F fn k=true) {x:Value} (hl:args.length=k) (hx:Goal P S F fn args h λo h'=>match o with
  | .ret v=>v=x/\h'=h
  | .lE _=>False):Pure P f args h x:=by
 subst hl;exact calls hS hf F ez hx
theorem GN {S:nH} (hS:dn P S) {fn:Func} (hf:P.funcs[f]? = some fn) (F:Fs) {k:Nat} (ez:aQ F fn k=true) {x:Value} (hl:args.length=k) (hx:Goal P S F fn args h λo h'=>match o with
  | .ret v=>v=x/\h.le h'
  | .lE _=>False):Pure P f args h x:=by
 subst hl;unfold Pure bI;refine(calls hS hf F ez hx).shrink λo h' hh=>?_;cases o with
 | ret v=>exact⟨h,hh.2,hh.1,rfl⟩
 | lE c=>exact hh.elim
theorem ax {p:Prop} {_:Decidable p} {t f:Prop} (ht:p->t) (hf:¬p->f):@Bool.rec (λ_=>Prop) f t (decide p):=by
 by_cases h:p
 ·rw[decide_eq_true h];exact ht h
 ·rw[decide_eq_false h];exact hf h
theorem aV {p:Prop} {_:Decidable p} {t f:Prop} (ht:¬p->t) (hf:p->f):@Bool.rec (λ_=>Prop) f t (!decide p):=by
 by_cases h:p
 ·rw[decide_eq_true h];exact hf h
 ·rw[decide_eq_false h];exact ht h
theorem dS {b:Bool} {t f:Prop} (ht:b=true->t) (hf:b=false->f):@Bool.rec (λ_=>Prop) f t b:=by
 cases b
 ·exact hf rfl
 ·exact ht rfl
theorem bY {b:Bool} {t f:Prop} (ht:b=false->t) (hf:b=true->f):@Bool.rec (λ_=>Prop) f t (!b):=by
 cases b
 ·exact ht rfl
 ·exact hf rfl
theorem wrap_i64 {x:Int} (h0 : -9223372036854775808<=x) (h1:x<=9223372036854775807):IntKind.i64.wrap x=x:=by
 simp[IntKind.wrap,IntKind.bits,IntKind.signed];omega
theorem IS {x:Int} {K:Int->Prop} (h0 : -9223372036854775808<=x) (h1:x<=9223372036854775807) (hk:K x):Ar .i64 x K:=by
 rw[iH,wrap_i64 h0 h1];exact hk
theorem qn {k:IntKind} {x:Int} {K:Int->Prop} (hk:K (k.wrap x)):Ar k x K:=iH.2 hk
theorem ob {p q:Prop} (hp:p) (hq:q):Ob p q:=cI.2 ⟨hp,hq⟩
theorem aj {x:Int} {K:Int->Prop} (hk:K x) (h0 : -9223372036854775808<=x:=by omega) (h1:x<=9223372036854775807:=by omega):Ar .i64 x K:=IS h0 h1 hk
theorem aq {p q:Prop} (hq:q) (hp:p:=by omega):Ob p q:=ob hp hq
theorem ld {b off:Nat} {v:Value} {K:Value->Prop} (hr:rd h b off=some v) (hk:K v):Ld h b off K:=by rw[xz];unfold Pj;exact⟨v,hr,hk⟩
theorem dK {b off n:Nat} {vs:List Value} {K:List Value->Prop} (hr:eG h b off n=some vs) (hk:K vs):Y0 h b off n K:=by rw[tF];unfold D7;exact⟨vs,hr,hk⟩
theorem ptr {b off:Nat} {K:Nat->Nat->Prop} (hk:K b off):Ptr (some ⟨b,off,none⟩) K:=by rw[qS];unfold Cg;exact⟨b,off,rfl,hk⟩
theorem aO {p:Option Addr} {b off:Nat} {K:Nat->Nat->Prop} (hp:p=some ⟨b,off,none⟩) (hk:K b off):Ptr p K:=by rw[qS];unfold Cg;exact⟨b,off,hp,hk⟩
theorem st {b off:Nat} {vs:List Value} {K:Heap->Prop} {cs:List Value} {t:TypeId} (U:h b=some (.cells cs.toArray t (0,0))) (hl:off+vs.length<=cs.length) (hk:K (h.set b (.cells (ep cs off vs).toArray t (0,0)))):St h b off vs K:=by
 rw[D9];unfold Sg;exact⟨cs.toArray,t,U,by simpa using hl,hk⟩
theorem new {cs:List Value} {t:TypeId} {K:Nat->Heap->Prop} (hk:∀ b,h b=none->K b (h.set b (.cells cs.toArray t))):Ig h cs t K:=by rw[oF];unfold Av;exact hk
theorem lp {body:(Ex->Env->Heap->Prop)->Env->Heap->Prop} {K:Ex->Env->Heap->Prop} {e:Env} (ls bs:List Nat) (Inv:Nat->List Slot->List (Option (List Value))->Heap->Prop) (n:Nat) (h0:Inv n (ls.map e.s) (bs.map e.b) h)
  (hs:∀ n vs cs h,Inv n vs cs h->body (λx e' h'=>match x with | .normal=>∃ m,m < n/\Inv m (ls.map e'.s) (bs.map e'.b) h' | .exit i=>K (.exit i) e' h' | .ret=>K .ret e' h' | .lE c=>K (.lE c) e' h') (xB ls bs vs cs) h):Lp body K e h:=by
 rw[It];unfold Yd;exact⟨ls,bs,Inv,⟨n,h0⟩,hs⟩
theorem fm {σ:Type} {body:(Ex->Env->Heap->Prop)->Env->Heap->Prop} {K:Ex->Env->Heap->Prop} {e:Env} (ls bs:List Nat) (St:σ->Prop) (m:σ->Nat) (f:σ->List Slot × List (Option (List Value)) × Heap) (s0:σ)
  (h0:St s0) (hf:f s0=(ls.map e.s,bs.map e.b,h))
  (hs:∀ s,St s->body (λx e' h'=>match x with | .normal=>∃ k,k < m s/\∃ s',St s'/\m s'=k/\f s'=(ls.map e'.s,bs.map e'.b,h') | .exit i=>K (.exit i) e' h' | .ret=>K .ret e' h' | .lE c=>K (.lE c) e' h') (xB ls bs (f s).1 (f s).2.1) (f s).2.2):Lp body K e h:=by
 refine lp ls bs (λn vs cs h'=>∃ s,St s/\m s=n/\f s=(vs,cs,h')) (m s0) ⟨s0,h0,rfl,hf⟩ ?_;rintro n vs cs h' ⟨s,h1,rfl,h2⟩;have:=hs s h1;rw[h2]at this;exact this
theorem dm {σ:Type} {St:σ->Prop} {m:σ->Nat} {f:σ->List Slot × List (Option (List Value)) × Heap} {t:List Slot × List (Option (List Value)) × Heap} {n:Nat} (s':σ) (h1:St s') (h2:m s' < n) (h3:f s'=t):∃ k,k < n/\∃ s',St s'/\m s'=k/\f s'=t:=⟨_,h2,s',h1,rfl,h3⟩
theorem N3 {o:Oper} {e:Env} {Kr:Value->Heap->Prop} {v:Value} (hv:∀ x∈o.op.operands,∃ v,e.get x=.v v)
  (hr:∀ ρ:Operand->Value,(∀ x∈o.op.operands,e.get x=.v (ρ x))->∀ w:World,(execOp ρ o).run P w=.ok (.value v) w) (hk:Kr v h):Raw P o e h Kr:=by
 rw[mV];unfold zo;exact⟨hv,λρ vp w hw=>⟨v,w,h,.inl (hr ρ vp w),cP.refl hw,hk⟩⟩
theorem eR {dst:Option Nat} {x:Operand} {xt at_:TypeId} {ok:Bool} {ty:TypeId} {pos:String} {af:Array Edge} {g:Option (Nat × Bool)} {e:Env} {Kr:Value->Heap->Prop} {c r:Value}
  (hx:e.get x=.v c) (hr:∀ w:World,(Instr.typeAssert c xt at_ ok).run P w=.ok r w) (hk:Kr r h):Raw P ⟨dst,.typeAssert x xt at_ ok,ty,pos,af,g⟩ e h Kr:=by
 refine N3 (v:=r) ?_ ?_ hk
 ·intro y hy;simp only[Op.operands,List.mem_toArray,List.mem_cons,List.not_mem_nil,or_false]at hy;subst hy;exact⟨c,hx⟩
 ·intro ρ vp w;have h1:=vp x (by simp[Op.operands]);rw[hx]at h1;injection h1 with h1
  simp only[execOp,<-h1];simp only[Sem.run_bind,hr,Result.andThen_ok,Sem.run_pure]
theorem jd {dst:Option Nat} {op:BinOp} {t u:TypeId} {x y:Operand} {ty:TypeId} {pos:String} {af:Array Edge} {g:Option (Nat × Bool)} {e:Env} {Kr:Value->Heap->Prop} {a b r:Value}
  (hx:e.get x=.v a) (hy:e.get y=.v b) (h1:∀ w:World,(eqGuard op t x y a b).run P w=.ok () w) (h2:∀ w:World,(Go.binOp op t a b).run P w=.ok r w) (hk:Kr r h):Raw P ⟨dst,.binOp op t x y u,ty,pos,af,g⟩ e h Kr:=by
 refine N3 (v:=r) ?_ ?_ hk
 ·intro z hz;simp only[Op.operands,List.mem_toArray,List.mem_cons,List.not_mem_nil,or_false]at hz;rcases hz with rfl|rfl
  ·exact⟨a,hx⟩
  ·exact⟨b,hy⟩
 ·intro ρ vp w;have e1:=vp x (by simp[Op.operands]);have e2:=vp y (by simp[Op.operands]);rw[hx]at e1;rw[hy]at e2;injection e1 with e1
  injection e2 with e2
  simp only[execOp,<-e1,<-e2];simp only[Sem.run_bind,h1,h2,Result.andThen_ok,Sem.run_pure]
theorem below_of_pure {x:Value} (hc:∀ h,(∀ b o,h b=some o->(w.heap[b]? = some o))->(∀ b,h b=w.heap[b]?)->Pure P f args h x):Calls P f args.toArray w λe w'=>e=.returned x/\Below w.heap.size w w':=by
 refine(hc (λb=>w.heap[b]?) (λ_ _ h=>h) (λ_=>rfl) w (λ_ _ h=>h)).mono ?_;rintro e w' ⟨h',m,hm⟩;cases e with
 | returned v =>
  obtain⟨rfl,rfl⟩:=hm;refine⟨rfl,m.out.1,m.out.2.1,m.out.2.2,m.size,λb U=>?_⟩;rw[Array.getElem?_eq_getElem U];exact m.view b _ (Array.getElem?_eq_getElem U)
 | panicked c=>exact hm.elim
 | outgrown=>exact hm.elim
theorem lU {b off:Nat} {cs:Array Value} {t:TypeId} {fz:Nat × Nat}:rd (h.set b (.cells cs t fz)) b off=cs[off]?:=by simp[rd,Heap.set]
theorem mX {b c off:Nat} {o:Obj} (cD:b≠c):rd (h.set c o) b off=rd h b off:=by simp[rd,Heap.set,cD]
def eS:Nat->List (Int × Value)->List MapEntry
 | _,[]=>[]
 | n,(k,v)::r=>⟨.int .i64 k,v,n⟩::eS (n+1) r
def pZ (l:List (Int × Value)):Obj:=.map (eS 0 l).toArray l.length
def ko (k:Int):List (Int × Value)->Nat->Option (Nat × Value)
 | [],_=>none
 | (j,v)::r,i=>if k=j then some (i,v)else ko k r (i+1)
theorem oT (k:Int):∀(l:List (Int × Value)) (n i:Nat),Instr.findNow (.int .i64) (.int .i64 k) (eS n l) i=some (ko k l i)
 | [],n,i=>rfl
 | (j,v)::r,n,i=>by
  rw[eS,Instr.findNow,ko];by_cases h:k=j
  ·subst h;simp[Instr.sameNow]
  ·have:(k==j)=false:=by simp[h]
   simp[Instr.sameNow,this,h,oT k r]
theorem sv (k:Int) (v:Value):∀(l:List (Int × Value)) (n:Nat),eS n (l++[(k,v)])=eS n l++[⟨.int .i64 k,v,n+l.length⟩]
 | [],n=>rfl
 | (j,x)::r,n=>by
  simp only[List.cons_append,eS,sv k v r,List.length_cons];rw[show n+1+r.length=n+(r.length+1)by omega]
theorem xQ {h:Heap} {w:World} (hv:∀ b o,h b=some o->w.heap[b]? = some o):h w.heap.size=none:=by
 cases hh:h w.heap.size with
 | none=>rfl
 | some o=>have:=ey (hv _ _ hh);omega
theorem set_set (h:Heap) (b:Nat) (o o':Obj):(h.set b o).set b o'=h.set b o':=by
 funext c;simp only[Heap.set];split<;>rfl
theorem run_checkKey {P:Program} {kt:TypeId} (h2:∀ w:World,(underlying kt).run P w=.ok (.int .i64) w) (n:Int) (q:Bool) (w:World):(Instr.checkKey q 10000 kt (.int .i64 n)).run P w=.ok () w:=by
 have g:∀ k,(Instr.checkKey q (k+1) kt (.int .i64 n)).run P w=.ok () w:=by
  intro k;simp only[Instr.checkKey,Sem.run_bind,h2,Result.andThen_ok];rfl
 exact g 9999
variable {P:Program} {h:Heap} {e:Env} {Kr:Value->Heap->Prop} {dst:Option Nat} {ty t kt et:TypeId} {pos:String} {af:Array Edge} {g:Option (Nat × Bool)} {m k x:Operand} {b:Nat} {n:Int} {l:List (Int × Value)} {v:Value}
theorem PE (hk:∀ b,h b=none->Kr (.map (some b)) (h.set b (pZ []))):Raw P ⟨dst,.makeMap t none,ty,pos,af,g⟩ e h Kr:=by
 rw[mV];unfold zo;refine⟨λy hy=>by simp[Op.operands]at hy,λρ vp w hw=>?_⟩;refine⟨.map (some w.heap.size),_,_,.inl ?_,cP.push hw _,hk _ (xQ hw)⟩;simp only[execOp,Instr.makeMap,Option.map_none,Sem.run_bind,run_newObj,Sem.run_pure,Result.andThen_ok];rfl
theorem Ms (hm:e.get m=.v (.map (some b))) (hk:e.get k=.v (.int .i64 n)) (hx:e.get x=.v v)
  (h1:∀ w:World,(underlying t).run P w=.ok (.map kt et) w) (h2:∀ w:World,(underlying kt).run P w=.ok (.int .i64) w) (hf:ko n l 0=none)
  (hK:Kr undef (h.set b (pZ (l++[(n,v)])))):Raw P ⟨dst,.insert t m k x,ty,pos,af,g⟩ e (h.set b (pZ l)) Kr:=by
 rw[mV];unfold zo;refine⟨?_,λρ vp w hw=>?_⟩
 ·intro y hy;simp only[Op.operands,List.mem_toArray,List.mem_cons,List.not_mem_nil,or_false]at hy;rcases hy with rfl|rfl|rfl
  ·exact⟨_,hm⟩
  ·exact⟨_,hk⟩
  ·exact⟨_,hx⟩
 ·have e1:=vp m (by simp[Op.operands]);have e2:=vp k (by simp[Op.operands]);have e3:=vp x (by simp[Op.operands]);rw[hm]at e1;rw[hk]at e2;rw[hx]at e3;injection e1 with e1
  injection e2 with e2
  injection e3 with e3
  have U:(h.set b (pZ l)) b=some (pZ l):=by simp[Heap.set]
  have RN:=hw _ _ U;have mv:=cP.Iw hw U (pZ (l++[(n,v)])) (w':={w with heap:=w.heap.setIfInBounds b (pZ (l++[(n,v)]))}) rfl ⟨rfl,rfl,rfl⟩;rw[set_set]at mv;refine⟨undef,_,_,.inr ⟨?_,rfl⟩,mv,hK⟩;have g1:∀ w:World,(Instr.checkKey false 10000 kt (.int .i64 n)).run P w=.ok () w:=by
   exact λw=>run_checkKey h2 n _ w
  have g2:∀ w:World,(Instr.findKey kt (.int .i64 n) (eS 0 l)).run P w=.ok none w:=by
   intro w;simp only[Instr.findKey,Sem.run_bind,h2,Result.andThen_ok,oT,hf,Sem.run_pure]
  have g3:(getObj b).run P w=.ok (.map (eS 0 l).toArray l.length) w:=by
   have Ck:w.heap[b]? = some (.map (eS 0 l).toArray l.length):=RN;simp[getObj,Sem.run,Ck]
  have g4:∀ o',(setObj b o').run P w=.ok () {w with heap:=w.heap.setIfInBounds b o' }:=by
   intro o';have Ck:w.heap[b]? = some (.map (eS 0 l).toArray l.length):=RN;simp[setObj,Sem.run,Ck]
  have g5:pZ (l++[(n,v)])=.map ((eS 0 l).toArray.push {key:=.int .i64 n,val:=v,born:=l.length}) (l.length+1):=by
   simp[pZ,sv]
  simp only[execOp,<-e1,<-e2,<-e3];simp only[Instr.mapUpdate,Sem.run_bind,h1,Result.andThen_ok,g3,g1,g2,g4,Sem.run_pure,g5]
theorem IU (hm:e.get m=.v (.map (some b))) (hk:e.get k=.v (.int .i64 n))
  (h1:∀ w:World,(underlying t).run P w=.ok (.map kt et) w) (h2:∀ w:World,(underlying kt).run P w=.ok (.int .i64) w) {z:Value} (h3:∀ w:World,(zeroValue et).run P w=.ok z w)
  (U:h b=some (pZ l))
  (hK:Kr (.tuple (match ko n l 0 with|some (_,v)=>#[v,.bool true]|none=>#[z,.bool false])) h):Raw P ⟨dst,.lookup t m k true,ty,pos,af,g⟩ e h Kr:=by
 rw[mV];unfold zo;refine⟨?_,λρ vp w hw=>?_⟩
 ·intro y hy;simp only[Op.operands,List.mem_toArray,List.mem_cons,List.not_mem_nil,or_false]at hy;rcases hy with rfl|rfl
  ·exact⟨_,hm⟩
  ·exact⟨_,hk⟩
 ·have e1:=vp m (by simp[Op.operands]);have e2:=vp k (by simp[Op.operands]);rw[hm]at e1;rw[hk]at e2;injection e1 with e1
  injection e2 with e2
  refine⟨_,w,h,.inl ?_,cP.refl hw,hK⟩;have Ck:w.heap[b]? = some (.map (eS 0 l).toArray l.length):=hw _ _ U;have g1:∀(q:Bool) (w:World),(Instr.checkKey q 10000 kt (.int .i64 n)).run P w=.ok () w:=by
   exact run_checkKey h2 n
  have g2:∀ w:World,(Instr.findKey kt (.int .i64 n) (eS 0 l)).run P w=.ok (ko n l 0) w:=by
   intro w;simp only[Instr.findKey,Sem.run_bind,h2,Result.andThen_ok,oT,Sem.run_pure]
  have g3:(getObj b).run P w=.ok (.map (eS 0 l).toArray l.length) w:=by
   simp[getObj,Sem.run,Ck]
  simp only[execOp,<-e1,<-e2];simp only[Instr.lookup,Sem.run_bind,h1,Result.andThen_ok,g3,g1,g2,Sem.run_pure];cases ko n l 0 with
  | none=>simp only[Sem.run_bind,h3,Result.andThen_ok,Sem.run_pure];rfl
  | some q=>obtain⟨i,y⟩:=q;simp only[Result.andThen_ok,Sem.run_pure];rfl
theorem Mt (hm:e.get m=.v (.map (some b))) (hk:e.get k=.v (.int .i64 n))
  (h1:∀ w:World,(underlying t).run P w=.ok (.map kt et) w) (h2:∀ w:World,(underlying kt).run P w=.ok (.int .i64) w) {z:Value} (h3:∀ w:World,(zeroValue et).run P w=.ok z w)
  (U:h b=some (pZ l)) {i:Nat} (hf:ko n l 0=some (i,v)) (hK:Kr (.tuple #[v,.bool true]) h):Raw P ⟨dst,.lookup t m k true,ty,pos,af,g⟩ e h Kr:=IU hm hk h1 h2 h3 U (by rw[hf];exact hK)
theorem Mu (hm:e.get m=.v (.map (some b))) (hk:e.get k=.v (.int .i64 n))
  (h1:∀ w:World,(underlying t).run P w=.ok (.map kt et) w) (h2:∀ w:World,(underlying kt).run P w=.ok (.int .i64) w) {z:Value} (h3:∀ w:World,(zeroValue et).run P w=.ok z w)
  (U:h b=some (pZ l)) (hf:ko n l 0=none) (hK:Kr (.tuple #[z,.bool false]) h):Raw P ⟨dst,.lookup t m k true,ty,pos,af,g⟩ e h Kr:=IU hm hk h1 h2 h3 U (by rw[hf];exact hK)
theorem fX {p:Prop} {_:Decidable p} {t f:Prop} (hp:p) (ht:t):@Bool.rec (λ_=>Prop) f t (decide p):=ax (λ_=>ht) (λh=>absurd hp h)
theorem cy {p:Prop} {_:Decidable p} {t f:Prop} (hp:¬p) (hf:f):@Bool.rec (λ_=>Prop) f t (decide p):=ax (λh=>absurd h hp) (λ_=>hf)
theorem PF {p:Prop} {_:Decidable p} {t f:Prop} (hp:¬p) (ht:t):@Bool.rec (λ_=>Prop) f t (!decide p):=aV (λ_=>ht) (λh=>absurd h hp)
theorem vr {p:Prop} {_:Decidable p} {t f:Prop} (hp:p) (hf:f):@Bool.rec (λ_=>Prop) f t (!decide p):=aV (λh=>absurd hp h) (λ_=>hf)
theorem b8 {p:Prop} {_:Decidable p} {t f:Prop} (ht:t) (hp:p:=by omega):@Bool.rec (λ_=>Prop) f t (decide p):=fX hp ht
theorem bL {p:Prop} {_:Decidable p} {t f:Prop} (hf:f) (hp:¬p:=by omega):@Bool.rec (λ_=>Prop) f t (decide p):=cy hp hf
theorem cU {p:Prop} {_:Decidable p} {t f:Prop} (ht:t) (hp:¬p:=by omega):@Bool.rec (λ_=>Prop) f t (!decide p):=PF hp ht
theorem cF {p:Prop} {_:Decidable p} {t f:Prop} (hf:f) (hp:p:=by omega):@Bool.rec (λ_=>Prop) f t (!decide p):=vr hp hf
variable {P:Program}
theorem IV {t u:TypeId} {f:Field} {ms:Array (String × TypeId)} {k':IntKind} {info:TypeInfo} (c d:Int)
  (h1:∀ w:World,(underlying t).run P w=.ok (.interface ms) w) (h2:∀ w:World,(typeInfo u).run P w=.ok info w) (iN:info.comparable=true)
  (h3:P.underlying u=some (.struct #[f])) (h4:P.stoodInHeld u=false) (hn:f.name≠ "_") (h5:P.underlying f.type=some (.int k'))
  (hp:∀(x:Int) (w:World),(part f.type #[.int .i64 x] f.offset).run P w=.ok (.int .i64 x) w) (w:World) :
  (Go.binOp .eql t (.iface u (.agg #[.int .i64 c])) (.iface u (.agg #[.int .i64 d]))).run P w=.ok (.bool (c==d)) w:=by
 have hf:P.fieldsOf u = #[f]:=by simp[Program.fieldsOf,h3]
 have e1:(Op.equalIn (9998+1) u (.agg #[.int .i64 c]) (.agg #[.int .i64 d])).run P w=.ok (c==d) w:=by
  rw[run_equalIn_struct w 9998 u _ _ (by rw[hf];exact h3) h4,hf];simp only[Op.eqFields,hn,ne_eq,not_false_eq_true,if_true,Sem.run_bind,hp,Result.andThen_ok];rw[show(9998:Nat)=9997+1 from rfl,run_equalIn_int w 9997 f.type .i64 k' c d h5];simp only[Result.andThen_ok];cases (c==d)<;>simp
 have e2:(Op.equalIn (9999+1) t (.iface u (.agg #[.int .i64 c])) (.iface u (.agg #[.int .i64 d]))).run P w=.ok (c==d) w:=by
  rw[Op.equalIn];simp only[Sem.run_bind,h1,Result.andThen_ok,ne_eq,not_true_eq_false,if_false,h2,iN,Bool.not_true,Bool.false_eq_true];exact e1
 have e3:(Op.equal t (.iface u (.agg #[.int .i64 c])) (.iface u (.agg #[.int .i64 d]))).run P w=.ok (c==d) w:=e2;simp only[Go.binOp];simp[e3]
theorem GO {t u:TypeId} {f:Field} {ms:Array (String × TypeId)} {info:TypeInfo} (c d:Bool)
  (h1:∀ w:World,(underlying t).run P w=.ok (.interface ms) w) (h2:∀ w:World,(typeInfo u).run P w=.ok info w) (iN:info.comparable=true)
  (h3:P.underlying u=some (.struct #[f])) (h4:P.stoodInHeld u=false) (hn:f.name≠ "_") (h5:P.underlying f.type=some .bool)
  (hp:∀(x:Bool) (w:World),(part f.type #[.bool x] f.offset).run P w=.ok (.bool x) w) (w:World) :
  (Go.binOp .eql t (.iface u (.agg #[.bool c])) (.iface u (.agg #[.bool d]))).run P w=.ok (.bool (c==d)) w:=by
 have hf:P.fieldsOf u = #[f]:=by simp[Program.fieldsOf,h3]
 have e1:(Op.equalIn (9998+1) u (.agg #[.bool c]) (.agg #[.bool d])).run P w=.ok (c==d) w:=by
  rw[run_equalIn_struct w 9998 u _ _ (by rw[hf];exact h3) h4,hf];simp only[Op.eqFields,hn,ne_eq,not_false_eq_true,if_true,Sem.run_bind,hp,Result.andThen_ok];rw[show(9998:Nat)=9997+1 from rfl,run_equalIn_bool' w 9997 f.type c d h5];simp only[Result.andThen_ok];cases (c==d)<;>simp
 have e2:(Op.equalIn (9999+1) t (.iface u (.agg #[.bool c])) (.iface u (.agg #[.bool d]))).run P w=.ok (c==d) w:=by
  rw[Op.equalIn];simp only[Sem.run_bind,h1,Result.andThen_ok,ne_eq,not_true_eq_false,if_false,h2,iN,Bool.not_true,Bool.false_eq_true];exact e1
 have e3:(Op.equal t (.iface u (.agg #[.bool c])) (.iface u (.agg #[.bool d]))).run P w=.ok (c==d) w:=e2;simp only[Go.binOp];simp[e3]
theorem IW {t e:TypeId} (a:Option Addr) (l c:Nat) (h:P.underlying t=some (.slice e)) (w:World):(Go.binOp .eql t (.slice a l c) (.slice none 0 0)).run P w=.ok (.bool a.isNone) w:=by
 simp only[Go.binOp];simp[run_equal_slice_nil w t e a l c h]
variable {h:Heap} {e:Env} {dst:Option Nat} {t u ty:TypeId} {x y:Operand} {pos:String} {af:Array Edge} {g:Option (Nat × Bool)}
theorem IX {Kr:Value->Heap->Prop} {el:TypeId} {a:Option Addr} {l c:Nat} (hx:e.get x=.v (.slice a l c)) (hy:e.get y=.v (.slice none 0 0)) (ht:P.underlying t=some (.slice el)) (hk:Kr (.bool a.isNone) h) :
  Raw P ⟨dst,.binOp .eql t x y u,ty,pos,af,g⟩ e h Kr :=
 jd hx hy (λw=>by simp[eqGuard]) (IW a l c ht) hk
theorem Mv {o:Oper} {Kr:Value->Prop} {v:Value} (hv:∀ x∈o.op.operands,∃ v,e.get x=.v v)
  (hr:∀ ρ:Operand->Value,(∀ x∈o.op.operands,e.get x=.v (ρ x))->∀ w:World,(execOp ρ o).run P w=.ok (.value v) w) (hk:Kr v):Md P o e Kr:=by
 rw[qe];unfold xA;exact⟨hv,v,hk,hr⟩
variable {P:Program} {S:nH} {h:Heap} {e:Env} {dst:Option Nat} {t u el ty:TypeId} {x y:Operand} {pos:String} {af:Array Edge} {g:Option (Nat × Bool)}
theorem IY (hS:dn P S) {ti tu te:TI} {p:Option Addr} {k cap n:Nat} {kd:IntKind} {Kr:Value->Heap->Prop}
  (cO:S.ty.find t=some ti) (qi:ti.d=.sl el) (AH:S.ty.find u=some tu) (Pv:tu.d=.num kd) (iL:S.ty.find el=some te) (AD:e.get x=.v (.slice p k cap)) (Mj:e.get y=.v (.int .i64 n))
  (Yi:n*te.bytes<=2 ^ 44/\n<=2 ^ 44) (hx:App te.bytes te.size te.zero el h p k cap n (List.replicate n te.zero).flatten Kr):Raw P ⟨dst,.call {callee:=.builtin .append,args:=#[x,y],argTypes:=#[t,u]},ty,pos,af,g⟩ e h Kr:=by
 rw[mV];unfold zo;refine⟨?_,λρ vp w hw=>?_⟩
 ·intro z hz;simp only[Op.operands,Call.operands]at hz;have:z=x\/z=y:=by simpa using hz
  rcases this with rfl|rfl
  ·exact⟨_,AD⟩
  ·exact⟨_,Mj⟩
 have e1:=vp x (by simp[Op.operands,Call.operands]);have e2:=vp y (by simp[Op.operands,Call.operands]);rw[AD]at e1;rw[Mj]at e2;injection e1 with e1
 injection e2 with e2
 obtain⟨d,ng,iZ,fj⟩:=cS hS cO w;rw[qi]at fj;cases d<;>simp only[mT]at fj<;>try cases fj
 obtain⟨du,So,_,Eh⟩:=cS hS AH w;rw[Pv]at Eh;cases du<;>simp only[mT]at Eh<;>try cases Eh
 obtain⟨i0,hi0,SF,abC⟩:=lF hS iL w;have hwr:IntKind.i64.wrap (n:Int)=n:=wrap_i64 (by omega) (by omega);have N4:∀ w1:World,(asInt (.int .i64 (n:Int))).run P w1=.ok (n:Int) w1:=λ_=>rfl;have SG:¬((n:Int) < 0):=by omega
 have SH:¬((n:Int)*(te.bytes:Int) > 2 ^ 48):=by
  have:((n*te.bytes:Nat):Int)<=2 ^ 44:=by exact_mod_cast Yi.1
  rw[Int.natCast_mul]at this;omega
 have eM:(execOp ρ ⟨dst,.call {callee:=.builtin .append,args:=#[x,y],argTypes:=#[t,u]},ty,pos,af,g⟩).run P w=((Builtin.append_ #[t,u] ty #[.slice p k cap,.int .i64 n]).run P w).andThen (λv w'=>.ok (.value v) w'):=by
  simp[execOp,resolve,invoke,builtin,<-e1,<-e2]
 have iT:∀ w1:World,(if n*te.size=0 then (pure #[]:Sem (Array Value))else do pure (Builtin.zeroCells (<-zeroValue el).cells n)).run P w1=.ok (List.replicate n te.zero).flatten.toArray w1:=by
  intro w1;obtain⟨z,hz,Iz⟩:=j9 hS iL w1;have GJ:z.cells=te.zero.toArray:=by rw[<-Iz]
  have hzl:te.zero.length=te.size:=hS.zero _ _ iL;split
  ·rename_i h0;have:(List.replicate n te.zero).flatten=[]:=List.eq_nil_of_length_eq_zero (by simp[hzl];simpa [Nat.mul_eq_zero]using h0);rw[this];simp
  ·simp only[Sem.run_bind,hz,Result.andThen_ok,Sem.run_pure,oM,GJ]
 generalize hV:(List.replicate n te.zero).flatten=vs at hx iT;rw[oH]at hx;unfold Aw at hx;by_cases hle:k+n<=cap
 ·obtain⟨ez,hx⟩:=hx.1 hle;have IB:∀ w',(match p with
    | some a=>(storeCells (a.add (k*te.size)) vs).run P w=.ok () w'
    | none=>w'=w)->((Builtin.append_ #[t,u] ty #[.slice p k cap,.int .i64 n]).run P w).andThen (λv w'=>.ok (.value v) w')=(.ok (.value (.slice p (k+n) cap)) w':Result Next):=by
   intro w' hw;simp only[Builtin.append_,List.getElem?_toArray,List.getElem?_cons_zero,List.getElem?_cons_succ,Sem.run_bind,ng,Result.andThen_ok,run_sizeOf hS iL,So,Sem.run_pure,if_true,N4,hwr,if_neg SG,hi0,SF,if_neg SH,Int.toNat_natCast,if_pos hle,Bool.not_true,Bool.false_eq_true,if_false,iT w];cases p with
   | none=>simp only at hw;subst hw;simp
   | some pa=>simp only at hw;simp[hw]
  rcases p with _|⟨b,off,_|sp⟩
  ·obtain⟨Y5,hK⟩:=hx;exact⟨_,w,h,.inl (by rw[eM];exact IB w rfl),cP.refl hw,hK⟩
  ·obtain⟨cs,Pr,U,Ei,hK⟩:=hx;obtain⟨w',Iy,Ck,Mh⟩:=gR (P:=P) b Pr vs (off+k*te.size) 0 w cs (hw _ _ U) (by simpa using Ei) ez;refine⟨_,w',_,.inl (eM.trans (IB w' ?_)),cP.Iw hw U _ (by simpa using Ck) Mh,hK⟩;simp only[kZ];exact Iy
  ·exact hx.elim
 ·obtain⟨IC,Sp,ic,hold,hx⟩:=hx.2 (by omega);obtain⟨i,hi,AE,RM⟩:=lF hS iL w;have Sq:=xK (need:=k+n) (cap:=cap) (by omega);have sH:Builtin.nextslicecap (k+n) cap*te.bytes<=2 ^ 48:=by
   have h1:=Nat.mul_le_mul_right te.bytes Sq;rw[Nat.mul_assoc]at h1;omega
  have ID:∀ w1:World,w1.heap=w.heap->(Builtin.firstCells te.size k (.slice p k cap)).run P w1=.ok ic.toArray w1:=by
   intro w1 Iy;rcases p with _|⟨b,off,_|sp⟩
   ·rw[hold.2];rfl
   ·obtain⟨hl,hc⟩:=qg _ _ _ hold;simp only[Builtin.firstCells,loadCells];have:=run_loadCells (P:=P) (w:=w1) ic b off 0 #[] (λj v hj=>by
     have:=qV hw (hc j v hj);simp only[World.cell?,Iy]at this ⊢;simpa using this)
    rw[hl]at this;simpa using this
   ·exact hold.elim
  obtain⟨nc,Pw,Px⟩:∃ nc,k+n<=nc/\(choose (.appendCap (k+n) cap el)).run P w=.ok nc {w with drawn:=w.drawn+1}:=by
   refine⟨_,?_,by simp[Question.forced];rfl⟩;simp only[Question.cut];omega
  have Py:¬(((k+n:Nat):Int) > IntKind.i64.max):=by
   have:(IntKind.i64.max:Int)=9223372036854775807:=by decide
   rw[this];omega
  refine⟨.slice (some ⟨w.heap.size,0,none⟩) (k+n) nc,{w with drawn:=w.drawn+1,heap:=w.heap.push (.cells (ic++vs++(List.replicate (nc-(k+n)) te.zero).flatten).toArray el)},_,.inl ?_,?_,hx _ nc (xQ hw) Pw⟩
  ·rw[eM];simp only[Builtin.append_,List.getElem?_toArray,List.getElem?_cons_zero,List.getElem?_cons_succ,Sem.run_bind,ng,Result.andThen_ok,run_sizeOf hS iL,So,Sem.run_pure,if_true,N4,hwr,if_neg SG,hi0,SF,if_neg SH,Int.toNat_natCast,if_neg hle,Bool.not_true,Bool.false_eq_true,if_false,hi,AE];rw[if_neg (by rintro⟨h1,_⟩;exact Py h1)];simp only[Sem.run_bind,Sem.run_pure,Result.andThen_ok,hi,AE];rw[if_neg (by omega)];simp only[Sem.run_bind,Sem.run_pure,Result.andThen_ok,Px,hi,AE,run_askRoom];obtain⟨i2,IE,_,_⟩:=lF hS iL {w with drawn:=w.drawn+1};simp only[IE,Result.andThen_ok];rw[ID {w with drawn:=w.drawn+1} rfl];simp only[Result.andThen_ok];rw[iT {w with drawn:=w.drawn+1}];obtain⟨z',Pz,GJ⟩:=j9 hS iL {w with drawn:=w.drawn+1};have IF:z'.cells=te.zero.toArray:=by rw[<-GJ]
   simp only[Result.andThen_ok,Pz,oM,IF,Go.newRow,Sem.run_bind,run_newObj,Sem.run_pure];simp
  ·have:=cP.push hw (.cells (ic++vs++(List.replicate (nc-(k+n)) te.zero).flatten).toArray el);exact⟨this.view,this.aG,this.xd,this.size,this.fz,rfl,rfl,rfl⟩
theorem Es (hS:dn P S) {ti te:TI} {b off dl dc sl sc:Nat} {p:Option Addr} {vs cs:List Value} {t':TypeId} {Kr:Value->Heap->Prop}
  (cO:S.ty.find t=some ti) (qi:ti.d=.sl el) (iL:S.ty.find el=some te) (AD:e.get x=.v (.slice (some ⟨b,off,none⟩) dl dc)) (Mj:e.get y=.v (.slice p sl sc))
  (hr:(p=none/\vs=[])\/∃ b2 o2,p=some ⟨b2,o2,none⟩/\eG h b2 o2 (Nat.min sl dl*te.size)=some vs) (U:h b=some (.cells cs.toArray t' (0,0))) (hl:off+vs.length<=cs.length) (hc:dG vs=true)
  (hk:Kr (.int .i64 (Nat.min sl dl:Nat)) (h.set b (.cells (ep cs off vs).toArray t' (0,0)))):Raw P ⟨dst,.call {callee:=.builtin .copy,args:=#[x,y],argTypes:=#[t,u]},ty,pos,af,g⟩ e h Kr:=by
 rw[mV];unfold zo;refine⟨?_,λρ vp w hw=>?_⟩
 ·intro z hz;simp only[Op.operands,Call.operands]at hz;have:z=x\/z=y:=by simpa using hz
  rcases this with rfl|rfl
  ·exact⟨_,AD⟩
  ·exact⟨_,Mj⟩
 have e1:=vp x (by simp[Op.operands,Call.operands]);have e2:=vp y (by simp[Op.operands,Call.operands]);rw[AD]at e1;rw[Mj]at e2;injection e1 with e1
 injection e2 with e2
 obtain⟨d,ng,iZ,fj⟩:=cS hS cO w;rw[qi]at fj;cases d<;>simp only[mT]at fj<;>try cases fj
 have eM:(execOp ρ ⟨dst,.call {callee:=.builtin .copy,args:=#[x,y],argTypes:=#[t,u]},ty,pos,af,g⟩).run P w=((Builtin.copy_ #[t,u] ty #[.slice (some ⟨b,off,none⟩) dl dc,.slice p sl sc]).run P w).andThen (λv w'=>.ok (.value v) w'):=by
  simp[execOp,resolve,invoke,builtin,<-e1,<-e2]
 have hlen:(Builtin.lenOf (.slice p sl sc)).run P w=.ok sl w:=rfl;have BU:(Builtin.firstCells te.size (Nat.min sl dl) (.slice p sl sc)).run P w=.ok vs.toArray w:=by
  rcases hr with ⟨rfl,rfl⟩|⟨b2,o2,rfl,iT⟩
  ·rfl
  ·obtain⟨hl2,LD⟩:=qg _ _ _ iT;simp only[Builtin.firstCells,loadCells];have:=run_loadCells (P:=P) (w:=w) vs b2 o2 0 #[] (λj v hj=>by
    have:=qV hw (LD j v hj);simpa using this)
   rw[hl2]at this;simpa using this
 obtain⟨w',Iy,Ck,Mh⟩:=gR (P:=P) b t' vs off 0 w cs.toArray (hw _ _ U) (by simpa using hl) hc;refine⟨_,w',_,.inl ?_,cP.Iw hw U _ (by simpa using Ck) Mh,hk⟩;rw[eM];simp only[Builtin.copy_,List.getElem?_toArray,List.getElem?_cons_zero,List.getElem?_cons_succ,Sem.run_bind,ng,Result.andThen_ok,hlen,run_sizeOf hS iL,BU];have:(storeCells ⟨b,off,none⟩ vs).run P w=.ok () w':=Iy;simp[this,goInt]
def SI (P:Program) (S:nH) (res:List ResultVar) (R:Value->Heap->Prop) (g:FuncId) (cv:List Value) (u:FrameMode) (e:Env) (h:Heap):Prop :=
 ∀ w:World,(∀ b o,h b=some o->w.heap[b]? = some o)->CallsD P g cv.toArray u w λen u' w'=>(∃ v,en=.returned v)/\settle u'=.returning/\∃ h',cP h w h' w'/\gC S e h' res λvs=>kG (λv=>R v h') vs
structure Et (P:Program) (S:nH) (res:List ResultVar) (R:Value->Heap->Prop) (g:FuncId) (cv:List Value) (u:FrameMode) (e:Env) (h:Heap):Prop where
 run:SI P S res R g cv u e h
theorem Rel.defer {D:List Deferred} {n:Nat} {h0 h:Heap} {w0 w:World} {β:Nat->Nat} {e:Env} {a:Act} (r:Rel D n h0 w0 β e h a w) (d:Deferred):Rel (d::D) n h0 w0 β e h {a with defers:=d::a.defers} w where
 size:=r.size
 xD:=by show d::a.defers=_;rw[r.xD]
 slot:=r.slot
 box:=r.box
 inj:=r.inj
 mv:=r.mv
theorem zS {P:Program} {S:nH} (hS:dn P S) {D:List Deferred} {n:Nat} {h0:Heap} {w0:World} {F:Fs} {ops:Array Oper} (hd:∀ o∈ops.toList,∀ d',o.dst=some d'->d' < n) {K:Env->Heap->Prop} {Q:Exit->Act->World->Prop} (rest:List Nat)
  (hk:∀ e' h' qU a' w',K e' h'->Rel D n h0 w0 qU e' h' a' w'->wpOps P ops Q rest a' w') :
  ∀(l:List Oper) (k:Nat) (e:Env) (h:Heap) (β:Nat->Nat) (a:Act) (w:World),(∀ j,j < l.length->l[j]? = ops[k+j]?)->Rel D n h0 w0 β e h a w ->
   Ch P S F ops.toList K (λ_ _=>False) l e h->wpOps P ops Q (List.range' k l.length++rest) a w
 | [],k,e,h,β,a,w,_,r,hx=>hk _ _ β _ _ hx r
 | o::l,k,e,h,β,a,w,hl,r,hx=>by
  have h0:ops[k]? = some o:=by simpa using (hl 0 (by simp)).symm
  rw[List.length_cons,List.range'_succ,List.cons_append,wpOps_cons];refine qm hS h0 r (hd o (by rw[<-Array.getElem?_toList]at h0;exact List.mem_of_getElem? h0)) hx (λe' h' qU a' w' hK hR=>?_) (λ_ _ _ _ hE=>hE.elim);exact zS hS hd rest hk l (k+1) e' h' qU a' w' (λj hj=>by have:=hl (j+1) (by simpa using hj);simpa [Nat.add_assoc,Nat.add_comm 1 j]using this) hR hK
def N5 (P:Program) (S:nH) (F:Fs) (res:List ResultVar) (R:Value->Heap->Prop) (A T:Code) (d:Nat) (g:FuncId) (tQ:List Operand) (sK pre:List Oper) (Zj:Option Nat) (cf:Operand) (xR:List Operand) (args:List Value) (h:Heap):Prop :=
 den P S F A (λex e1 h1=>match ex with
  | .normal=>bE e1 tQ λcv=>Ch P S F sK (λe2 h2=>match e2.get cf with
   | .v fv=>bE e2 xR λav=>qf P S false fv av h2 (λs _ h3=>den P S F T (λex e4 h4=>match ex with
     | .normal=>Et P S res R g cv .returning e4 h4
     | .ret=>Et P S res R g cv .returning e4 h4
     | _=>False) (e2.put Zj s none) h3) (λc h3=>Et P S res R g cv (.panicking c) e2 h3)
   | _=>False) (λ_ _=>False) pre (e1.put (some d) (.v (.func (.func g) #[] ⟨cv⟩)) none) h1
  | _=>False) (ki args) h
theorem sL {P:Program} {S:nH} (hS:dn P S) {fn:Func} {R:Value->Heap->Prop} {g:FuncId} {cv:List Value} {u:FrameMode} {e:Env} {h h0:Heap} {n:Nat} {w0 w:World} {β:Nat->Nat} {a:Act} {D:List Deferred}
  (hu:u≠.run) (zL:Nat.ble S.lo g=true) (Pu:Nat.blt g S.nf=true) (r:Rel D n h0 w0 β e h a w) (hx:Et P S fn.results.toList R g cv u e h) :
  Leaves P fn a.tmps (λen w'=>∃ h',cP h0 w0 h' w'/\match en with
   | .returned v=>R v h'
   | .panicked _=>False
   | .outgrown=>False) [{target:=.fn (.func g) ⟨cv⟩,args:=#[]}] u w:=by
 obtain⟨gn,Si,zM,IG⟩:=hS.fn g (Nat.le_of_ble_eq_true zL) (by have:=Pu;simp[Nat.blt]at this;omega);refine leaves_cons (f:=g) (args:=cv.toArray) hu ?_ ?_
 ·simp only[invoke,callFunc,run_program,Sem.run_bind,Sem.run_pure,Result.andThen_ok,Si,IG,Bool.false_eq_true,if_false,zM];simp
 ·refine(hx.run w r.mv.view).mono ?_;rintro en u' w' ⟨⟨v,rfl⟩,hs,h',m,iM⟩;simp only[hs];have r2:Rel D n h0 w0 β e h' a w':=by
   have:=r.put m none (λ_ hd=>by cases hd) (s:=.v undef) (v:=undef) rfl;simpa [Env.put,Act.put]using this
  obtain⟨v,h1,h2⟩:=nj (R:=λo h'=>match o with | .ret v=>R v h' | .lE _=>False) hS r2 iM;exact⟨v,h1,h',r2.mv,h2⟩
theorem Eu {P:Program} {S:nH} (hS:dn P S) (F:Fs) {f:FuncId} {fn:Func} {A T:Code} {i1 i2 d:Nat} {g:FuncId} {tQ xR:Array Operand} {t1 t2:TypeId} {p1 p2:String} {Yj Yk:Array Edge} {sK:Array Oper} {pre:List Oper} {last:Oper} {cf:Operand} {ts:Array TypeId} {args:List Value} {k:Nat} {h:Heap} {R:Value->Heap->Prop}
  (hf:P.funcs[f]? = some fn)
  (U:fn.body=some (A.seq ((Code.region i1 #[⟨some d,.makeFunc (.func g) #[] tQ,t1,p1,Yj,none⟩,⟨none,.defer ⟨.value (.tmp d),#[],#[]⟩,t2,p2,Yk,none⟩] false).seq ((Code.region i2 sK false).seq T))))
  (ez:aQ F fn k=true) (hk:args.length=k) (Mw:sK.toList=pre++[last]) (hg:last.guard=none) (zL:last.op=.call {callee:=.value cf,args:=xR,argTypes:=ts})
  (IZ:Nat.ble S.lo g=true) (I0:Nat.blt g S.nf=true)
  (hx:N5 P S F fn.results.toList R A T d g tQ.toList sK.toList pre last.dst cf xR.toList args h):bI P f args h R:=by
 subst hk;simp only[aQ,U,Code.kg,Code.jB,Bool.and_eq_true]at ez;obtain⟨⟨hn,hdA,Sr,hd2,SJ⟩,hpA,_,_,Zk⟩:=ez;have hn:=Nat.le_of_ble_eq_true hn;have ng:d < fn.ntmps:=sI Sr _ (List.mem_cons_self) d rfl;intro w hv;have key:=calls_of_wp_defers (P:=P) (f:=f) (args:=args.toArray) (w:=w) (R:=λen w'=>∃ h',cP h w h' w'/\match en with
   | .returned v=>R v h'
   | .panicked _=>False
   | .outgrown=>False) hf U ?_
 ·refine key.mono ?_;rintro en w' ⟨h',m,hh⟩;refine⟨h',m,?_⟩;cases en<;>exact hh
 refine wp_seq (wp_mono (qY hS F A _ _ _ _ _ _ hdA (oS hS A hdA hpA) hx (vn hn hv)) ?_);intro ex a1 w1 cQ;cases ex with
 | exit i=>obtain⟨_,_,_,hx,_⟩:=cQ;exact hx.elim
 | ret=>obtain⟨_,_,_,hx,_⟩:=cQ;exact hx.elim
 | panic c=>obtain⟨_,_,hx,_⟩:=cQ;exact hx.elim
 | goto l=>exact cQ.elim
 | outgrown=>exact cQ.elim
 | normal =>
  obtain⟨Zb,e1,h1,FN,r1⟩:=cQ;obtain⟨cv,FN,l1,l2⟩:=lG _ _ FN;have gG:=qj r1 l1 l2;refine wp_seq (wp_region ?_);have r2:=r1.put (cP.refl r1.mv.view) (some d) (λd' Em=>by cases Em;exact ng) (s:=.v (.func (.func g) #[] ⟨cv⟩)) (v:=.func (.func g) #[] ⟨cv⟩) rfl;show wpOps P _ _ [0,1] a1 w1;rw[wpOps_cons];unfold wpOp;simp only[List.getElem?_toArray,List.getElem?_cons_zero,Region.wanted,if_true];refine .inl ?_;have e1r:(execOp a1.eval ⟨some d,.makeFunc (.func g) #[] tQ,t1,p1,Yj,none⟩).run P w1=.ok (.value (.func (.func g) #[] ⟨cv⟩)) w1:=by
   simp[execOp,gG,Instr.makeFunc,Sem.run_bind]
  unfold Oper.wp;rw[e1r];simp only[Oper.upon];rw[wpOps_cons];unfold wpOp;simp only[List.getElem?_toArray,List.getElem?_cons_succ,List.getElem?_cons_zero,Region.wanted,if_true];refine .inl ?_;have hfd:(a1.put (some d) (.func (.func g) #[] ⟨cv⟩)).eval (.tmp d)=.func (.func g) #[] ⟨cv⟩:=r2.eval (by simp[Env.get,Env.put]);have e2r:(execOp (a1.put (some d) (.func (.func g) #[] ⟨cv⟩)).eval ⟨none,.defer ⟨.value (.tmp d),#[],#[]⟩,t2,p2,Yk,none⟩).run P w1=.ok (.defer ⟨.fn (.func g) ⟨cv⟩,#[]⟩) w1:=by
   simp[execOp,resolve,hfd,Deferred.ofValue,Sem.run_bind,Sem.run_pure,Result.andThen_ok]
  unfold Oper.wp;rw[e2r];simp only[Oper.upon,wpOps,Act.put];have r3:=r2.defer ⟨.fn (.func g) ⟨cv⟩,#[]⟩;refine wp_seq (wp_region ?_);have hsz:sK.size=pre.length+1:=by rw[<-Array.length_toList,Mw];simp
  have CE:sK[pre.length]? = some last:=by rw[<-Array.getElem?_toList,Mw];simp
  have hr:List.range sK.size=List.range' 0 pre.length++[pre.length]:=by
   rw[hsz,List.range_eq_range',List.range'_append_1 (s:=0) (m:=pre.length) (n:=1) |>.symm];simp
  rw[hr];refine zS hS (sI hd2) _ ?_ pre 0 _ _ Zb _ _ (λj hj=>by rw[Nat.zero_add,<-Array.getElem?_toList,Mw,List.getElem?_append_left hj]) r3 FN;intro e2 h2 β2 a2 w2 Ew r4;rw[wpOps_cons];unfold wpOp;simp only[CE,Region.wanted,hg,if_true];refine .inl ?_;split at Ew
  case h_2=>exact Ew.elim
  rename_i fv hfv;obtain⟨vs,Ew,m1,m2⟩:=lG _ _ Ew;have hargs:=qj r4 m1 m2;unfold qf at Ew;split at Ew
  ·rename_i g' first captured hx9;split at Ew
   ·rename_i Zl Zm;obtain⟨fn',Zn,PG,PI⟩:=hS.fn g' (Nat.le_of_ble_eq_true Zl) (by have:=Zm;simp[Nat.blt]at this;omega);rw[bJ]at Ew;have eM:(execOp a2.eval last).run P w2=.ok (.enter g' (first++vs.toArray++captured)) w2:=by
     simp only[execOp,zL,resolve,r4.eval hfv,Deferred.ofValue,hargs,Sem.run_bind,Sem.run_pure,Result.andThen_ok,invoke,callFunc,run_program,Zn,PI,Bool.false_eq_true,if_false,PG]
    have qk:(first.toList++vs++captured.toList).toArray=first++vs.toArray++captured:=by
     apply Array.ext';simp
    have Ew:=Ew.run;unfold xy at Ew;unfold Oper.wp;rw[eM];simp only[Oper.upon];rw[<-qk];refine(Ew w2 r4.mv.view).mono ?_;rintro en w3 ⟨h3,m,hm⟩;cases en with
    | outgrown=>exact hm.elim
    | returned v =>
     have r5:=r4.put m last.dst (sI hd2 last (by rw[Mw];simp)) (s:=.v v) (v:=v) rfl;refine wp_mono (qY hS F T _ _ _ _ _ _ SJ (oS hS T SJ Zk) hm r5) ?_;intro ex a5 w5 cQ;cases ex with
     | normal=>obtain⟨qU,e',h',hK,hR⟩:=cQ;show Leaves _ _ _ _ a5.defers _ _;rw[hR.xD];exact sL hS (by simp) IZ I0 hR hK
     | ret=>obtain⟨qU,e',h',hK,hR⟩:=cQ;show Leaves _ _ _ _ a5.defers _ _;rw[hR.xD];exact sL hS (by simp) IZ I0 hR hK
     | exit i=>obtain⟨_,_,_,hx,_⟩:=cQ;exact hx.elim
     | panic c=>obtain⟨_,_,hx,_⟩:=cQ;exact hx.elim
     | goto l=>exact cQ.elim
     | outgrown=>exact cQ.elim
    | panicked c =>
     have r5:=r4.put m none (λ_ hd=>by cases hd) (s:=.v undef) (v:=undef) rfl;simp only[Env.put,Act.put]at r5;show Leaves _ _ _ _ a2.defers _ _;rw[r5.xD];exact sL hS (by simp) IZ I0 r5 hm
   ·exact Ew.elim
  ·exact Ew.elim
theorem CF {P:Program} {S:nH} (hS:dn P S) (F:Fs) {f:FuncId} {fn:Func} {A T:Code} {i1 i2 d:Nat} {g:FuncId} {tQ xR:Array Operand} {t1 t2:TypeId} {p1 p2:String} {Yj Yk:Array Edge} {sK:Array Oper} {last:Oper} {cf:Operand} {ts:Array TypeId} {args:List Value} {k:Nat} {h:Heap} {R:Value->Heap->Prop} (m:Nat)
  (hf:P.funcs[f]? = some fn) (ez:aQ F fn k=true) (hk:args.length=k)
  (U:fn.body=some (A.seq ((Code.region i1 #[⟨some d,.makeFunc (.func g) #[] tQ,t1,p1,Yj,none⟩,⟨none,.defer ⟨.value (.tmp d),#[],#[]⟩,t2,p2,Yk,none⟩] false).seq ((Code.region i2 sK false).seq T))))
  (hm:sK.size=m+1) (hl:sK[m]? = some last) (hg:last.guard=none) (zL:last.op=.call {callee:=.value cf,args:=xR,argTypes:=ts})
  (IZ:Nat.ble S.lo g=true) (I0:Nat.blt g S.nf=true)
  (hx:N5 P S F fn.results.toList R A T d g tQ.toList sK.toList (sK.toList.take m) last.dst cf xR.toList args h):bI P f args h R:=by
 refine Eu hS F hf U ez hk ?_ hg zL IZ I0 hx;rw[<-Array.getElem?_toList]at hl;have hlen:sK.toList.length=m+1:=by rw[Array.length_toList,hm]
 obtain⟨iS,FO⟩:=List.getElem?_eq_some_iff.1 hl;rw[<-FO];apply List.ext_getElem?
 intro j;by_cases hj:j < m
 ·rw[List.getElem?_append_left (by simp;omega),List.getElem?_take_of_lt hj]
 ·rw[List.getElem?_append_right (by simp;omega)];by_cases hj2:j=m
  ·subst hj2;simp only[List.length_take,hlen];rw[show min j (j+1)=j by omega];simp[iS]
  ·rw[List.getElem?_eq_none (by omega),List.getElem?_eq_none];simp;omega
def Found (v:Value) (u:FrameMode):Prop:=(u=.returning/\v=.nilIface)\/u=.panicking [{v,recovered:=false}]
theorem FT {P:Program} {S:nH} (hS:dn P S) (F:Fs) {g:FuncId} {gn:Func} {i d:Nat} {t0:TypeId} {p0:String} {af:Array Edge} {ts:Array TypeId} {T:Code} {cv:List Value} {k:Nat} {h:Heap} {res:List ResultVar} {R:Value->Heap->Prop} {e:Env} {u:FrameMode} {v:Value}
  (hu:Found v u) (hf:P.funcs[g]? = some gn) (U:gn.body=some ((Code.region i #[⟨some d,.call ⟨.builtin .recover,#[],ts⟩,t0,p0,af,none⟩] false).seq T)) (hr:gn.results = #[])
  (ez:aQ F gn k=true) (hk:cv.length=k)
  (hx:den P S F T (λex _ h'=>match ex with
   | .normal=>gC S e h' res λvs=>kG (λv=>R v h') vs
   | .ret=>gC S e h' res λvs=>kG (λv=>R v h') vs
   | _=>False) ((ki cv).put (some d) (.v v) none) h):Et P S res R g cv u e h:=by
 subst hk;simp only[aQ,U,Code.kg,Code.jB,Bool.and_eq_true]at ez;obtain⟨⟨hn,Sr,SJ⟩,_,Zk⟩:=ez;have hn:=Nat.le_of_ble_eq_true hn;have ng:d < gn.ntmps:=sI Sr _ (List.mem_cons_self) d rfl;refine⟨λw hv=>callsD_of_wpS (c:=(Code.region i #[⟨some d,.call ⟨.builtin .recover,#[],ts⟩,t0,p0,af,none⟩] false).seq T) hf U λc0 cs hm=>?_⟩;have r0:=vn (fn:=gn) hn hv;have r1:=r0.put (cP.refl r0.mv.view) (some d) (λd' Em=>by cases Em;exact ng) (s:=.v v) (v:=v) rfl;apply wpS_seq
 apply wpS_region
 show wpOpsS P _ _ [0] _ _ _;have run:∀(ρ:Operand->Value),(execOp ρ ⟨some d,.call ⟨.builtin .recover,#[],ts⟩,t0,p0,af,none⟩).run P w=.ok .recover w:=by
  intro ρ;simp[execOp,resolve,invoke,builtin]
 have fin:∀ jt u',settle u'=.returning->jt = {c0 with mode:=u' }::cs->T.wpS P (bodyPostS P gn c0 cs λen u' w'=>(∃ v,en=.returned v)/\settle u'=.returning/\∃ h',cP h w h' w'/\gC S e h' res λvs=>kG (λv=>R v h') vs) (({tmps:=cv.toArray++Array.replicate (gn.ntmps-cv.toArray.size) undef,defers:=[]}:Act).put (some d) v) jt w:=by
  intro jt u' hs hcs;refine wpS_of_wp (wp_mono (qY hS F T _ _ _ _ _ _ SJ (oS hS T SJ Zk) hx r1) ?_);intro ex a5 w5 cQ;have iM:(results gn a5.tmps).run P w5=.ok (.tuple #[]) w5:=by
   unfold results;rw[hr];simp[Sem.run_bind,Sem.run_pure]
  cases ex with
  | normal=>obtain⟨qU,e',h',hK,hR⟩:=cQ;exact⟨hR.xD,u',hcs,_,iM,⟨_,rfl⟩,hs,h',hR.mv,hK⟩
  | ret=>obtain⟨qU,e',h',hK,hR⟩:=cQ;exact⟨hR.xD,u',hcs,_,iM,⟨_,rfl⟩,hs,h',hR.mv,hK⟩
  | exit i=>obtain⟨_,_,_,hx,_⟩:=cQ;exact hx.elim
  | panic c=>obtain⟨_,_,hx,_⟩:=cQ;exact hx.elim
  | goto l=>exact cQ.elim
  | outgrown=>exact cQ.elim
 have hc0:c0 = {c0 with mode:=c0.mode}:=rfl;simp only[wpOpsS,List.getElem?_toArray,List.getElem?_cons_zero,Region.wanted,if_true,run];rcases hu with ⟨rfl,rfl⟩|rfl
 ·simp only[recoverD,hm];exact fin _ .returning rfl (by rw[<-hm])
 ·simp only[recoverD,hm];exact fin _ (.panicking [{v,recovered:=true}]) rfl rfl
end Go.Vc
namespace Go.Proofs
open Go.Vc Go.Proofs.Tryz
def Tryz.sig:Go.Vc.nH:=⟨.node (.node (.node (.node (.node (.node (.node (.node (.leaf) 1 ⟨1,8,[.nilFunc],false,.dj⟩ (.leaf)) 2 ⟨1,8,[.int .i64 0],false,.num .i64⟩ (.node (.leaf) 3 ⟨1,8,[.int .i64 0],false,.num .i64⟩ (.leaf))) 4 ⟨1,1,[.bool false],false,.YY⟩ (.node (.node (.leaf) 5 ⟨1,1,[.int .u8 0],false,.num .u8⟩ (.leaf)) 6 ⟨1,1,[.int .u8 0],false,.num .u8⟩ (.node (.leaf) 7 ⟨4,24,[.int .i64 0,.int .i64 0,.bool false,.int .u8 0],true,.str [(0,2),(1,3),(2,4),(3,6)]⟩ (.leaf)))) 8 ⟨4,24,[.int .i64 0,.int .i64 0,.bool false,.int .u8 0],true,.str [(0,2),(1,3),(2,4),(3,6)]⟩ (.node (.node (.node (.leaf) 9 ⟨1,16,[.string ⟨#[]⟩],false,.Se⟩ (.leaf)) 10 ⟨1,16,[.string ⟨#[]⟩],false,.Se⟩ (.node (.leaf) 11 ⟨1,16,[.string ⟨#[]⟩],false,.Se⟩ (.leaf))) 12 ⟨1,8,[.int .u64 0],false,.num .u64⟩ (.node (.node (.leaf) 13 ⟨2,24,[.string ⟨#[]⟩,.int .u64 0],true,.str [(0,9),(1,12)]⟩ (.leaf)) 14 ⟨2,24,[.string ⟨#[]⟩,.int .u64 0],true,.str [(0,9),(1,12)]⟩ (.leaf)))) 15 ⟨1,8,[.pointer none],false,.ptr 239⟩ (.node (.node (.node (.node (.leaf) 16 ⟨1,8,[.pointer none],false,.ptr 242⟩ (.leaf)) 17 ⟨1,8,[.pointer none],false,.ptr 250⟩ (.node (.leaf) 18 ⟨1,8,[.pointer none],true,.str [(0,17)]⟩ (.leaf))) 19 ⟨1,8,[.pointer none],true,.str [(0,17)]⟩ (.node (.node (.leaf) 20 ⟨1,16,[.nilIface],false,.Sf⟩ (.leaf)) 21 ⟨1,4,[.int .i32 0],false,.num .i32⟩ (.node (.leaf) 22 ⟨1,24,[.slice none 0 0],false,.sl 5⟩ (.leaf)))) 23 ⟨1,24,[.slice none 0 0],false,.sl 79⟩ (.node (.node (.node (.leaf) 24 ⟨1,24,[.slice none 0 0],false,.sl 47⟩ (.leaf)) 25 ⟨2,48,[.slice none 0 0,.slice none 0 0],true,.str [(0,23),(1,24)]⟩ (.node (.leaf) 26 ⟨2,48,[.slice none 0 0,.slice none 0 0],true,.str [(0,23),(1,24)]⟩ (.leaf))) 28 ⟨1,8,[.nilFunc],false,.dj⟩ (.node (.node (.leaf) 29 ⟨1,24,[.slice none 0 0],false,.sl 58⟩ (.leaf)) 30 ⟨1,24,[.slice none 0 0],false,.sl 40⟩ (.leaf))))) 31 ⟨1,24,[.slice none 0 0],false,.sl 3⟩ (.node (.node (.node (.node (.node (.leaf) 32 ⟨2,16,[.bool false,.int .i64 0],true,.str [(0,4),(1,3)]⟩ (.leaf)) 33 ⟨2,16,[.bool false,.int .i64 0],true,.str [(0,4),(1,3)]⟩ (.node (.leaf) 34 ⟨7,104,[.slice none 0 0,.slice none 0 0,.slice none 0 0,.int .i64 0,.int .i64 0,.bool false,.int .i64 0],true,.str [(0,29),(1,30),(2,31),(3,3),(4,3),(5,33)]⟩ (.leaf))) 35 ⟨7,104,[.slice none 0 0,.slice none 0 0,.slice none 0 0,.int .i64 0,.int .i64 0,.bool false,.int .i64 0],true,.str [(0,29),(1,30),(2,31),(3,3),(4,3),(5,33)]⟩ (.node (.node (.leaf) 36 ⟨1,8,[.nilFunc],false,.dj⟩ (.leaf)) 37 ⟨1,8,[.nilFunc],false,.dj⟩ (.node (.leaf) 38 ⟨1,24,[.slice none 0 0],false,.sl 33⟩ (.leaf)))) 39 ⟨4,64,[.int .i64 0,.int .i64 0,.slice none 0 0,.slice none 0 0],true,.str [(0,3),(1,3),(2,38),(3,38)]⟩ (.node (.node (.node (.leaf) 40 ⟨4,64,[.int .i64 0,.int .i64 0,.slice none 0 0,.slice none 0 0],true,.str [(0,3),(1,3),(2,38),(3,38)]⟩ (.leaf)) 41 ⟨3,24,[.int .i64 0,.int .i64 0,.int .i64 0],true,.str [(0,3),(1,3),(2,3)]⟩ (.node (.leaf) 42 ⟨3,24,[.int .i64 0,.int .i64 0,.int .i64 0],true,.str [(0,3),(1,3),(2,3)]⟩ (.leaf))) 43 ⟨1,24,[.slice none 0 0],false,.sl 42⟩ (.node (.node (.leaf) 44 ⟨1,24,[.slice none 0 0],false,.sl 101⟩ (.leaf)) 45 ⟨1,24,[.slice none 0 0],false,.sl 62⟩ (.leaf)))) 46 ⟨8,128,[.int .i64 0,.int .i64 0,.slice none 0 0,.int .i64 0,.int .i64 0,.slice none 0 0,.slice none 0 0,.slice none 0 0],true,.str [(0,3),(1,3),(2,31),(3,3),(4,3),(5,43),(6,44),(7,45)]⟩ (.node (.node (.node (.node (.leaf) 47 ⟨8,128,[.int .i64 0,.int .i64 0,.slice none 0 0,.int .i64 0,.int .i64 0,.slice none 0 0,.slice none 0 0,.slice none 0 0],true,.str [(0,3),(1,3),(2,31),(3,3),(4,3),(5,43),(6,44),(7,45)]⟩ (.leaf)) 48 ⟨1,8,[.nilFunc],false,.dj⟩ (.node (.leaf) 49 ⟨1,8,[.nilFunc],false,.dj⟩ (.leaf))) 50 ⟨1,8,[.nilFunc],false,.dj⟩ (.node (.node (.leaf) 51 ⟨1,8,[.nilFunc],false,.dj⟩ (.leaf)) 52 ⟨1,8,[.nilFunc],false,.dj⟩ (.leaf))) 53 ⟨1,8,[.nilFunc],false,.dj⟩ (.node (.node (.node (.leaf) 55 ⟨1,8,[.nilFunc],false,.dj⟩ (.leaf)) 56 ⟨1,8,[.nilFunc],false,.dj⟩ (.node (.leaf) 57 ⟨2,32,[.int .i64 0,.slice none 0 0],true,.str [(0,3),(1,38)]⟩ (.leaf))) 58 ⟨2,32,[.int .i64 0,.slice none 0 0],true,.str [(0,3),(1,38)]⟩ (.node (.node (.leaf) 59 ⟨1,8,[.nilFunc],false,.dj⟩ (.leaf)) 60 ⟨1,8,[.nilFunc],false,.dj⟩ (.leaf)))))) 61 ⟨4,32,[.int .i64 0,.int .i64 0,.int .i64 0,.int .i64 0],true,.str [(0,3),(1,3),(2,3),(3,3)]⟩ (.node (.node (.node (.node (.node (.node (.leaf) 62 ⟨4,32,[.int .i64 0,.int .i64 0,.int .i64 0,.int .i64 0],true,.str [(0,3),(1,3),(2,3),(3,3)]⟩ (.leaf)) 63 ⟨1,8,[.nilFunc],false,.dj⟩ (.node (.leaf) 65 ⟨1,8,[.nilFunc],false,.dj⟩ (.leaf))) 67 ⟨1,8,[.nilFunc],false,.dj⟩ (.node (.node (.leaf) 68 ⟨1,8,[.nilFunc],false,.dj⟩ (.leaf)) 69 ⟨1,8,[.pointer none],false,.ptr 98⟩ (.node (.leaf) 70 ⟨1,8,[.nilFunc],false,.dj⟩ (.leaf)))) 71 ⟨1,8,[.nilFunc],false,.dj⟩ (.node (.node (.node (.leaf) 72 ⟨1,8,[.nilFunc],false,.dj⟩ (.leaf)) 73 ⟨1,8,[.nilFunc],false,.dj⟩ (.node (.leaf) 74 ⟨1,8,[.nilFunc],false,.dj⟩ (.leaf))) 75 ⟨1,8,[.nilFunc],false,.dj⟩ (.node (.node (.leaf) 76 ⟨1,8,[.nilFunc],false,.dj⟩ (.leaf)) 77 ⟨1,8,[.nilFunc],false,.dj⟩ (.leaf)))) 78 ⟨2,32,[.int .i64 0,.slice none 0 0],true,.str [(0,3),(1,31)]⟩ (.node (.node (.node (.node (.leaf) 79 ⟨2,32,[.int .i64 0,.slice none 0 0],true,.str [(0,3),(1,31)]⟩ (.leaf)) 80 ⟨1,8,[.nilFunc],false,.dj⟩ (.node (.leaf) 81 ⟨1,8,[.nilFunc],false,.dj⟩ (.leaf))) 82 ⟨1,8,[.nilFunc],false,.dj⟩ (.node (.node (.leaf) 83 ⟨1,8,[.nilFunc],false,.dj⟩ (.leaf)) 84 ⟨1,8,[.nilFunc],false,.dj⟩ (.node (.leaf) 85 ⟨1,8,[.nilFunc],false,.dj⟩ (.leaf)))) 86 ⟨1,8,[.nilFunc],false,.dj⟩ (.node (.node (.node (.leaf) 87 ⟨1,8,[.nilFunc],false,.dj⟩ (.leaf)) 88 ⟨1,8,[.nilFunc],false,.dj⟩ (.node (.leaf) 89 ⟨1,8,[.nilFunc],false,.dj⟩ (.leaf))) 90 ⟨1,8,[.nilFunc],false,.dj⟩ (.node (.node (.leaf) 91 ⟨1,8,[.nilFunc],false,.dj⟩ (.leaf)) 92 ⟨1,8,[.nilFunc],false,.dj⟩ (.leaf))))) 93 ⟨1,8,[.nilFunc],false,.dj⟩ (.node (.node (.node (.node (.node (.leaf) 94 ⟨1,1,[.int .i8 0],false,.num .i8⟩ (.leaf)) 95 ⟨1,1,[.int .i8 0],false,.num .i8⟩ (.node (.leaf) 96 ⟨5,40,[.nilFunc,.nilFunc,.nilFunc,.nilFunc,.nilFunc],true,.arr 5 92⟩ (.leaf))) 97 ⟨2,32,[.slice none 0 0,.int .i64 0],true,.str [(0,22),(1,3)]⟩ (.node (.node (.leaf) 98 ⟨2,32,[.slice none 0 0,.int .i64 0],true,.str [(0,22),(1,3)]⟩ (.leaf)) 99 ⟨1,8,[.nilFunc],false,.dj⟩ (.node (.leaf) 100 ⟨3,56,[.bool false,.slice none 0 0,.slice none 0 0],true,.str [(0,4),(1,31),(2,31)]⟩ (.leaf)))) 101 ⟨3,56,[.bool false,.slice none 0 0,.slice none 0 0],true,.str [(0,4),(1,31),(2,31)]⟩ (.node (.node (.node (.leaf) 102 ⟨1,8,[.nilFunc],false,.dj⟩ (.leaf)) 103 ⟨1,8,[.nilFunc],false,.dj⟩ (.node (.leaf) 104 ⟨1,8,[.nilFunc],false,.dj⟩ (.leaf))) 105 ⟨1,8,[.nilFunc],false,.dj⟩ (.node (.node (.leaf) 106 ⟨1,8,[.nilFunc],false,.dj⟩ (.leaf)) 107 ⟨1,8,[.map none],false,.dj⟩ (.leaf)))) 108 ⟨1,8,[.nilFunc],false,.dj⟩ (.node (.node (.node (.node (.leaf) 109 ⟨1,8,[.nilFunc],false,.dj⟩ (.leaf)) 110 ⟨1,8,[.int .i64 0],true,.str [(0,3)]⟩ (.node (.leaf) 111 ⟨1,8,[.int .i64 0],true,.str [(0,3)]⟩ (.leaf))) 113 ⟨1,8,[.nilFunc],false,.dj⟩ (.node (.node (.leaf) 114 ⟨1,8,[.pointer none],false,.ptr 35⟩ (.leaf)) 115 ⟨1,8,[.nilFunc],false,.dj⟩ (.leaf))) 116 ⟨1,8,[.nilFunc],false,.dj⟩ (.node (.node (.node (.leaf) 117 ⟨1,8,[.nilFunc],false,.dj⟩ (.leaf)) 118 ⟨1,8,[.pointer none],false,.ptr 120⟩ (.node (.leaf) 119 ⟨11,168,[.slice none 0 0,.slice none 0 0,.slice none 0 0,.slice none 0 0,.slice none 0 0,.int .i64 0,.int .i64 0,.bool false,.int .i64 0,.bool false,.int .i64 0],true,.str [(0,26),(2,35),(9,4),(10,3)]⟩ (.leaf))) 120 ⟨11,168,[.slice none 0 0,.slice none 0 0,.slice none 0 0,.slice none 0 0,.slice none 0 0,.int .i64 0,.int .i64 0,.bool false,.int .i64 0,.bool false,.int .i64 0],true,.str [(0,26),(2,35),(9,4),(10,3)]⟩ (.node (.node (.leaf) 121 ⟨1,8,[.nilFunc],false,.dj⟩ (.leaf)) 122 ⟨1,8,[.nilFunc],false,.dj⟩ (.leaf))))))) 123 ⟨1,8,[.nilFunc],false,.dj⟩ (.node (.node (.node (.node (.node (.node (.node (.leaf) 124 ⟨1,8,[.nilFunc],false,.dj⟩ (.leaf)) 125 ⟨1,8,[.nilFunc],false,.dj⟩ (.node (.leaf) 126 ⟨1,8,[.nilFunc],false,.dj⟩ (.leaf))) 127 ⟨1,8,[.nilFunc],false,.dj⟩ (.node (.node (.leaf) 128 ⟨1,8,[.nilFunc],false,.dj⟩ (.leaf)) 129 ⟨1,8,[.nilFunc],false,.dj⟩ (.node (.leaf) 130 ⟨1,8,[.nilFunc],false,.dj⟩ (.leaf)))) 131 ⟨1,8,[.nilFunc],false,.dj⟩ (.node (.node (.node (.leaf) 132 ⟨1,8,[.nilFunc],false,.dj⟩ (.leaf)) 133 ⟨1,8,[.nilFunc],false,.dj⟩ (.node (.leaf) 134 ⟨1,8,[.nilFunc],false,.dj⟩ (.leaf))) 135 ⟨1,8,[.nilFunc],false,.dj⟩ (.node (.node (.leaf) 136 ⟨1,8,[.nilFunc],false,.dj⟩ (.leaf)) 137 ⟨1,8,[.nilFunc],false,.dj⟩ (.leaf)))) 138 ⟨1,8,[.nilFunc],false,.dj⟩ (.node (.node (.node (.node (.leaf) 139 ⟨1,8,[.nilFunc],false,.dj⟩ (.leaf)) 141 ⟨1,8,[.nilFunc],false,.dj⟩ (.node (.leaf) 142 ⟨1,8,[.nilFunc],false,.dj⟩ (.leaf))) 143 ⟨1,8,[.nilFunc],false,.dj⟩ (.node (.node (.leaf) 144 ⟨1,8,[.nilFunc],false,.dj⟩ (.leaf)) 145 ⟨1,8,[.nilFunc],false,.dj⟩ (.node (.leaf) 146 ⟨1,8,[.nilFunc],false,.dj⟩ (.leaf)))) 147 ⟨1,8,[.nilFunc],false,.dj⟩ (.node (.node (.node (.leaf) 148 ⟨1,8,[.nilFunc],false,.dj⟩ (.leaf)) 149 ⟨1,8,[.int .i64 0],false,.num .i64⟩ (.node (.leaf) 150 ⟨2,16,[.int .i64 0,.int .i64 0],true,.str [(0,149),(1,149)]⟩ (.leaf))) 151 ⟨2,16,[.int .i64 0,.int .i64 0],true,.str [(0,149),(1,149)]⟩ (.node (.node (.leaf) 152 ⟨1,8,[.nilFunc],false,.dj⟩ (.leaf)) 154 ⟨1,8,[.nilFunc],false,.dj⟩ (.leaf))))) 155 ⟨1,8,[.nilFunc],false,.dj⟩ (.node (.node (.node (.node (.node (.leaf) 156 ⟨1,8,[.nilFunc],false,.dj⟩ (.leaf)) 157 ⟨1,8,[.nilFunc],false,.dj⟩ (.node (.leaf) 158 ⟨1,8,[.pointer none],false,.ptr 190⟩ (.leaf))) 159 ⟨1,8,[.nilFunc],false,.dj⟩ (.node (.node (.leaf) 160 ⟨1,8,[.pointer none],false,.ptr 40⟩ (.leaf)) 161 ⟨1,8,[.nilFunc],false,.dj⟩ (.node (.leaf) 162 ⟨1,8,[.nilFunc],false,.dj⟩ (.leaf)))) 163 ⟨1,8,[.nilFunc],false,.dj⟩ (.node (.node (.node (.leaf) 164 ⟨1,8,[.nilFunc],false,.dj⟩ (.leaf)) 165 ⟨1,8,[.nilFunc],false,.dj⟩ (.node (.leaf) 166 ⟨1,24,[.slice none 0 0],false,.sl 134⟩ (.leaf))) 167 ⟨1,8,[.nilFunc],false,.dj⟩ (.node (.node (.leaf) 168 ⟨1,8,[.nilFunc],false,.dj⟩ (.leaf)) 169 ⟨1,8,[.nilFunc],false,.dj⟩ (.leaf)))) 171 ⟨1,8,[.nilFunc],false,.dj⟩ (.node (.node (.node (.node (.leaf) 172 ⟨1,8,[.nilFunc],false,.dj⟩ (.leaf)) 173 ⟨1,8,[.nilFunc],false,.dj⟩ (.node (.leaf) 174 ⟨1,16,[.nilIface],false,.Sf⟩ (.leaf))) 175 ⟨1,16,[.nilIface],false,.Sf⟩ (.node (.node (.leaf) 176 ⟨1,8,[.nilFunc],false,.dj⟩ (.leaf)) 177 ⟨0,0,[],true,.str []⟩ (.leaf))) 178 ⟨0,0,[],true,.str []⟩ (.node (.node (.node (.leaf) 179 ⟨1,1,[.bool false],true,.str [(0,4)]⟩ (.leaf)) 180 ⟨1,1,[.bool false],true,.str [(0,4)]⟩ (.node (.leaf) 181 ⟨1,8,[.int .i64 0],true,.str [(0,3)]⟩ (.leaf))) 182 ⟨1,8,[.int .i64 0],true,.str [(0,3)]⟩ (.node (.node (.leaf) 183 ⟨1,8,[.nilFunc],false,.dj⟩ (.leaf)) 185 ⟨1,8,[.nilFunc],false,.dj⟩ (.leaf)))))) 186 ⟨1,8,[.nilFunc],false,.dj⟩ (.node (.node (.node (.node (.node (.node (.leaf) 187 ⟨9,136,[.pointer none,.int .i64 0,.int .i64 0,.slice none 0 0,.int .i64 0,.int .i64 0,.slice none 0 0,.slice none 0 0,.slice none 0 0],true,.str [(0,160),(1,47)]⟩ (.leaf)) 188 ⟨9,136,[.pointer none,.int .i64 0,.int .i64 0,.slice none 0 0,.int .i64 0,.int .i64 0,.slice none 0 0,.slice none 0 0,.slice none 0 0],true,.str [(0,160),(1,47)]⟩ (.node (.leaf) 189 ⟨12,192,[.pointer none,.int .i64 0,.int .i64 0,.slice none 0 0,.int .i64 0,.int .i64 0,.slice none 0 0,.slice none 0 0,.slice none 0 0,.slice none 0 0,.slice none 0 0,.pointer none],true,.str [(0,188),(9,26),(11,114)]⟩ (.leaf))) 190 ⟨12,192,[.pointer none,.int .i64 0,.int .i64 0,.slice none 0 0,.int .i64 0,.int .i64 0,.slice none 0 0,.slice none 0 0,.slice none 0 0,.slice none 0 0,.slice none 0 0,.pointer none],true,.str [(0,188),(9,26),(11,114)]⟩ (.node (.node (.leaf) 191 ⟨1,8,[.nilFunc],false,.dj⟩ (.leaf)) 192 ⟨1,8,[.nilFunc],false,.dj⟩ (.node (.leaf) 193 ⟨1,8,[.nilFunc],false,.dj⟩ (.leaf)))) 194 ⟨1,8,[.nilFunc],false,.dj⟩ (.node (.node (.node (.leaf) 195 ⟨1,8,[.pointer none],false,.ptr 58⟩ (.leaf)) 196 ⟨1,8,[.nilFunc],false,.dj⟩ (.node (.leaf) 197 ⟨1,8,[.nilFunc],false,.dj⟩ (.leaf))) 198 ⟨1,8,[.nilFunc],false,.dj⟩ (.node (.node (.leaf) 199 ⟨1,8,[.nilFunc],false,.dj⟩ (.leaf)) 200 ⟨1,8,[.nilFunc],false,.dj⟩ (.leaf)))) 201 ⟨1,8,[.nilFunc],false,.dj⟩ (.node (.node (.node (.node (.leaf) 202 ⟨1,8,[.nilFunc],false,.dj⟩ (.leaf)) 203 ⟨1,8,[.nilFunc],false,.dj⟩ (.node (.leaf) 204 ⟨0,0,[],true,.str []⟩ (.leaf))) 205 ⟨0,0,[],true,.str []⟩ (.node (.node (.leaf) 206 ⟨1,8,[.nilFunc],false,.dj⟩ (.leaf)) 207 ⟨1,8,[.nilFunc],false,.dj⟩ (.node (.leaf) 208 ⟨1,8,[.nilFunc],false,.dj⟩ (.leaf)))) 209 ⟨1,24,[.slice none 0 0],false,.sl 211⟩ (.node (.node (.node (.leaf) 210 ⟨1,8,[.nilFunc],false,.dj⟩ (.leaf)) 211 ⟨1,8,[.int .i64 0],false,.num .i64⟩ (.node (.leaf) 212 ⟨1,8,[.nilFunc],false,.dj⟩ (.leaf))) 213 ⟨1,8,[.nilFunc],false,.dj⟩ (.node (.node (.leaf) 214 ⟨1,8,[.nilFunc],false,.dj⟩ (.leaf)) 215 ⟨1,8,[.nilFunc],false,.dj⟩ (.leaf))))) 216 ⟨1,8,[.nilFunc],false,.dj⟩ (.node (.node (.node (.node (.node (.leaf) 217 ⟨1,8,[.pointer none],false,.ptr 33⟩ (.leaf)) 218 ⟨1,8,[.nilFunc],false,.dj⟩ (.node (.leaf) 219 ⟨1,8,[.nilFunc],false,.dj⟩ (.leaf))) 220 ⟨1,8,[.nilFunc],false,.dj⟩ (.node (.node (.leaf) 222 ⟨1,8,[.nilFunc],false,.dj⟩ (.leaf)) 223 ⟨1,8,[.nilFunc],false,.dj⟩ (.node (.leaf) 224 ⟨1,8,[.int .u64 0],false,.num .u64⟩ (.leaf)))) 226 ⟨1,8,[.nilFunc],false,.dj⟩ (.node (.node (.node (.leaf) 227 ⟨1,8,[.nilFunc],false,.dj⟩ (.leaf)) 228 ⟨1,8,[.nilFunc],false,.dj⟩ (.node (.leaf) 229 ⟨1,4,[.int .u32 0],false,.num .u32⟩ (.leaf))) 231 ⟨1,8,[.nilFunc],false,.dj⟩ (.node (.node (.leaf) 232 ⟨1,8,[.int .u64 0],false,.num .u64⟩ (.leaf)) 234 ⟨1,8,[.nilFunc],false,.dj⟩ (.leaf)))) 236 ⟨1,8,[.nilFunc],false,.dj⟩ (.node (.node (.node (.node (.leaf) 237 ⟨1,8,[.nilFunc],false,.dj⟩ (.leaf)) 238 ⟨4,40,[.pointer none,.pointer none,.pointer none,.string ⟨#[]⟩],true,.str [(0,17),(1,17),(2,17),(3,9)]⟩ (.node (.leaf) 239 ⟨4,40,[.pointer none,.pointer none,.pointer none,.string ⟨#[]⟩],true,.str [(0,17),(1,17),(2,17),(3,9)]⟩ (.leaf))) 240 ⟨0,0,[],true,.arr 0 16⟩ (.node (.node (.leaf) 243 ⟨1,1,[.int .u8 0],false,.num .u8⟩ (.leaf)) 244 ⟨1,1,[.int .u8 0],false,.num .u8⟩ (.leaf))) 245 ⟨1,8,[.nilFunc],false,.dj⟩ (.node (.node (.node (.leaf) 246 ⟨1,8,[.pointer none],false,.ptr 5⟩ (.leaf)) 247 ⟨1,4,[.int .i32 0],false,.num .i32⟩ (.node (.leaf) 248 ⟨1,4,[.int .i32 0],false,.num .i32⟩ (.leaf))) 249 ⟨11,48,[.int .u64 0,.int .u64 0,.int .u32 0,.int .u8 0,.int .u8 0,.int .u8 0,.int .u8 0,.nilFunc,.pointer none,.int .i32 0,.int .i32 0],true,.str [(0,12),(1,12),(2,229),(3,243),(4,5),(5,5),(6,244),(7,245),(8,246),(9,247),(10,248)]⟩ (.node (.node (.leaf) 250 ⟨11,48,[.int .u64 0,.int .u64 0,.int .u32 0,.int .u8 0,.int .u8 0,.int .u8 0,.int .u8 0,.nilFunc,.pointer none,.int .i32 0,.int .i32 0],true,.str [(0,12),(1,12),(2,229),(3,243),(4,5),(5,5),(6,244),(7,245),(8,246),(9,247),(10,248)]⟩ (.leaf)) 251 ⟨1,8,[.pointer none],false,.dj⟩ (.leaf))))))),3,228⟩
theorem Tryz.au:dn prog sig:=dn.mk' (by kernel_rfl) (by kernel_rfl) (by kernel_rfl) (by kernel_rfl)
def Tryz.F3:Fs:={L:=[3,5,7,8],LL:=[23,24,43,45,50,69,73,82,88],cr:=[(5,[2,0,1,3,4,5]),(11,[0,2,7,11,1,3,4,5,8,6,9,10,12]),(14,[0,1,2,3,4,6,5,7,8,9,10,11,12,13,15,19,14,16,17,20,18,21,22,23])]}
theorem Tryz.RO:aQ F3 Tryz.f3 1=true:=by kernel_rfl
def Tryz.F4:Fs:={L:=[3,5],LL:=[17,18,24,36,37,49,53,55],cr:=[(5,[2,0,1,3,4,5,6,7,8,9,10,11,12,13,14,15,16,17,18]),(6,[2,0,1,3,4,5]),(9,[0,2,1,3,4,5,7,6,8,9,10])]}
theorem Tryz.ok4:aQ F4 Tryz.f4 1=true:=by kernel_rfl
def Tryz.F16:Fs:={L:=[2,4,5]}
theorem Tryz.Zo:aQ F16 Tryz.f16 2=true:=by kernel_rfl
def Tryz.F17:Fs:={L:=[2,3,6,7]}
theorem Tryz.Zp:aQ F17 Tryz.f17 2=true:=by kernel_rfl
def Tryz.F18:Fs:={L:=[2,4,5]}
theorem Tryz.Zq:aQ F18 Tryz.f18 2=true:=by kernel_rfl
def Tryz.F19:Fs:={L:=[1],LL:=[45,47],cr:=[(8,[1,3,0,2,4,5,6,7])]}
theorem Tryz.Zr:aQ F19 Tryz.f19 1=true:=by kernel_rfl
def Tryz.F26:Fs:={cr:=[(6,[0,1,2,4,5,6,3,7,8])]}
theorem Tryz.Zs:aQ F26 Tryz.f26 2=true:=by kernel_rfl
def Tryz.F28:Fs:={cr:=[(6,[0,1,2,4,5,6,3,7,8])]}
theorem Tryz.Zt:aQ F28 Tryz.f28 2=true:=by kernel_rfl
def Tryz.F32:Fs:={L:=[8]}
theorem Tryz.Zu:aQ F32 Tryz.f32 3=true:=by kernel_rfl
def Tryz.F33:Fs:={cr:=[(6,[0,1,2,3,5,6,7,8,4,9,10,11,12,13,14,15,17,18,19,20,16,21,22,23,24])]}
theorem Tryz.Zv:aQ F33 Tryz.f33 2=true:=by kernel_rfl
def Tryz.F34:Fs:={}
theorem Tryz.Zw:aQ F34 Tryz.f34 1=true:=by kernel_rfl
def Tryz.F35:Fs:={L:=[2,3]}
theorem Tryz.Zx:aQ F35 Tryz.f35 1=true:=by kernel_rfl
def Tryz.F36:Fs:={cr:=[(7,[0,1,2,4,5,6,7,15,16,17,19,20,21,22,23,24,33,34,36,37,38,39,3,8,9,10,11,12,13,14,18,25,26,27,28,29,30,31,32,35,40,41,42,43,44,45])]}
theorem Tryz.Zy:aQ F36 Tryz.f36 2=true:=by kernel_rfl
def Tryz.F38:Fs:={L:=[3]}
theorem Tryz.Zz:aQ F38 Tryz.f38 1=true:=by kernel_rfl
def Tryz.F39:Fs:={L:=[1,3,6]}
theorem Tryz.ZA:aQ F39 Tryz.f39 1=true:=by kernel_rfl
def Tryz.F40:Fs:={}
theorem Tryz.ZB:aQ F40 Tryz.f40 3=true:=by kernel_rfl
def Tryz.F41:Fs:={L:=[1,2,3,15]}
theorem Tryz.ZC:aQ F41 Tryz.f41 1=true:=by kernel_rfl
def Tryz.ZD:Fs:={L:=[2,3,4,6]}
theorem Tryz.SK:aQ ZD Tryz.f42 2=true:=by kernel_rfl
def Tryz.F43:Fs:={}
theorem Tryz.ZE:aQ F43 Tryz.f43 3=true:=by kernel_rfl
def Tryz.F44:Fs:={L:=[1,2],LL:=[8],trees:=[(3,(.one 1 (.alt 0 (.alt 2 (.alt 3 (.one 4 (.one 5 (.one 6 .nil))) (.alt 4 (.one 3 (.one 5 (.one 6 .nil))) .fO)) (.alt 4 (.one 2 (.one 3 (.one 5 (.one 6 .nil)))) .fO)) (.alt 4 (.one 0 (.one 2 (.one 3 (.one 5 (.one 6 .nil))))) .fO))))]}
theorem Tryz.ZF:aQ F44 Tryz.f44 1=true:=by kernel_rfl
def Tryz.F45:Fs:={L:=[2,3,4,6],LL:=[8,9,22,24,26,37,39,44,64,65],cr:=[(1,[0,1,2,3,4,5]),(3,[0,2,4,1,3,5,6,7,8,9,10]),(5,[0,1,3,8,2,4,5,6,9,7,10,11,12]),(8,[0,1,2,3,4,5])],M:=[88]}
theorem Tryz.ZG:aQ F45 Tryz.f45 2=true:=by kernel_rfl
def Tryz.F46:Fs:={}
theorem Tryz.ZH:aQ F46 Tryz.f46 1=true:=by kernel_rfl
def Tryz.F47:Fs:={L:=[2,3],LL:=[40,41,43,51,53,55,69,70,72],cr:=[(6,[2,4,0,1,3,5,6,7,8,9,10,12,14,16,11,13,15,17,18,19,20,21]),(11,[2,4,0,1,3,5,6,7,8])]}
theorem Tryz.ZI:aQ F47 Tryz.f47 2=true:=by kernel_rfl
def Tryz.F48:Fs:={L:=[1,5,6]}
theorem Tryz.ZJ:aQ F48 Tryz.f48 1=true:=by kernel_rfl
def Tryz.F50:Fs:={L:=[1,2,3,6,34,64],LL:=[18,20,27],trees:=[(6,(.one 0 (.one 2 (.one 4 (.one 9 (.one 11 (.one 1 (.one 3 (.one 5 (.one 6 (.one 10 (.one 12 (.one 13 (.alt 7 (.alt 8 (.one 14 (.one 15 (.one 16 (.one 17 (.one 18 (.one 19 (.one 20 .nil))))))) (.alt 14 (.one 8 (.one 15 (.one 16 (.one 17 (.one 18 (.one 19 (.one 20 .nil))))))) .fO)) (.alt 8 (.alt 7 (.one 14 (.one 15 (.one 16 (.one 17 (.one 18 (.one 19 (.one 20 .nil))))))) (.alt 14 (.alt 7 (.one 15 (.one 16 (.one 17 (.one 18 (.one 19 (.one 20 .nil)))))) (.alt 15 (.one 7 (.one 16 (.one 17 (.one 18 (.one 19 (.one 20 .nil)))))) .fO)) .fO)) (.alt 14 (.alt 7 (.one 8 (.one 15 (.one 16 (.one 17 (.one 18 (.one 19 (.one 20 .nil))))))) (.alt 8 (.alt 7 (.one 15 (.one 16 (.one 17 (.one 18 (.one 19 (.one 20 .nil)))))) (.alt 15 (.one 7 (.one 16 (.one 17 (.one 18 (.one 19 (.one 20 .nil)))))) .fO)) .fO)) .fO))))))))))))))))]}
theorem Tryz.ZK:aQ F50 Tryz.f50 1=true:=by kernel_rfl
def Tryz.F54:Fs:={}
theorem Tryz.ZL:aQ F54 Tryz.f54 1=true:=by kernel_rfl
def Tryz.F61:Fs:={L:=[3]}
theorem Tryz.ZM:aQ F61 Tryz.f61 2=true:=by kernel_rfl
def Tryz.F62:Fs:={}
theorem Tryz.ZN:aQ F62 Tryz.f62 3=true:=by kernel_rfl
def Tryz.F63:Fs:={L:=[3,5]}
theorem Tryz.ZO:aQ F63 Tryz.f63 1=true:=by kernel_rfl
def Tryz.F64:Fs:={}
theorem Tryz.ZP:aQ F64 Tryz.f64 2=true:=by kernel_rfl
def Tryz.ZQ:Fs:={}
theorem Tryz.SL:aQ ZQ Tryz.f65 3=true:=by kernel_rfl
def Tryz.F66:Fs:={}
theorem Tryz.ZR:aQ F66 Tryz.f66 1=true:=by kernel_rfl
def Tryz.F67:Fs:={}
theorem Tryz.ZS:aQ F67 Tryz.f67 2=true:=by kernel_rfl
def Tryz.F68:Fs:={}
theorem Tryz.ZT:aQ F68 Tryz.f68 2=true:=by kernel_rfl
def Tryz.F69:Fs:={}
theorem Tryz.ZU:aQ F69 Tryz.f69 2=true:=by kernel_rfl
def Tryz.F70:Fs:={}
theorem Tryz.ZV:aQ F70 Tryz.f70 2=true:=by kernel_rfl
def Tryz.F73:Fs:={L:=[0]}
theorem Tryz.ZW:aQ F73 Tryz.f73 0=true:=by kernel_rfl
def Tryz.F75:Fs:={L:=[18]}
theorem Tryz.ZX:aQ F75 Tryz.f75 2=true:=by kernel_rfl
def Tryz.F76:Fs:={L:=[4,5,6,47]}
theorem Tryz.ZY:aQ F76 Tryz.f76 3=true:=by kernel_rfl
def Tryz.F77:Fs:={L:=[3,4,5],LL:=[111,113,115],cr:=[(32,[0,1,2,4,6,3,5,7,8,9,10,11,12,13])]}
theorem Tryz.ZZ:aQ F77 Tryz.f77 3=true:=by kernel_rfl
def Tryz.F78:Fs:={}
theorem Tryz.Z0:aQ F78 Tryz.f78 0=true:=by kernel_rfl
def Tryz.F79:Fs:={L:=[2,3],LL:=[62,66,67],cr:=[(14,[0,1,2,3,4,5,6,7,8,9,10,11])]}
theorem Tryz.Z1:aQ F79 Tryz.f79 2=true:=by kernel_rfl
def Tryz.F80:Fs:={L:=[3,4,8,9,12]}
theorem Tryz.Z2:aQ F80 Tryz.f80 3=true:=by kernel_rfl
def Tryz.F81:Fs:={L:=[2,3,6]}
theorem Tryz.Z3:aQ F81 Tryz.f81 2=true:=by kernel_rfl
def Tryz.F82:Fs:={L:=[1,4,6]}
theorem Tryz.Z4:aQ F82 Tryz.f82 1=true:=by kernel_rfl
def Tryz.F83:Fs:={L:=[1,2,3,5,7,33,48],LL:=[9,12,14,16,26,28,30,45,46],cr:=[(1,[0,3,5,7,10,1,4,6,8,2,9,11]),(5,[0,2,4,1,3,5,6,7,8,9,10,11]),(10,[0,1,2,3,4,5,6,7])]}
theorem Tryz.Z5:aQ F83 Tryz.f83 1=true:=by kernel_rfl
def Tryz.F84:Fs:={L:=[2]}
theorem Tryz.Z6:aQ F84 Tryz.f84 2=true:=by kernel_rfl
def Tryz.F85:Fs:={L:=[3,9],LL:=[37,50,58,61],cr:=[(3,[0,1,2,4,5,6,3,7,8,9,10,11]),(4,[0,2,3,4,10,1,5,6,7,8,9]),(7,[1,2,3,0,4,5,6,7,9,10,8,11,12,13]),(11,[0,1,2,3,5,6,7,4,8,9,10,11,12,13,14])]}
theorem Tryz.Z7:aQ F85 Tryz.f85 3=true:=by kernel_rfl
def Tryz.F86:Fs:={L:=[13]}
theorem Tryz.Z8:aQ F86 Tryz.f86 0=true:=by kernel_rfl
def Tryz.F87:Fs:={L:=[3,6,7,27],LL:=[15,18,25],cr:=[(2,[0,3,5,1,2,4,6,7,8,9]),(3,[0,1,2,3,4,5,6])]}
theorem Tryz.Z9:aQ F87 Tryz.f87 3=true:=by kernel_rfl
def Tryz.PJ:Fs:={L:=[3]}
theorem Tryz.GP:aQ PJ Tryz.f88 2=true:=by kernel_rfl
def Tryz.F89:Fs:={cr:=[(5,[0,1,2,3,5,6,7,4,8,9,10,11,12]),(9,[0,1,2,4,5,6,7,9,10,11,12,3,8,13,14,15,16,17,18,19,20,22,23,24,25,26,21,27,28,29]),(12,[0,1,2,3,4,6,7,8,9,5,10,11,12,13,14,15,16,17])]}
theorem Tryz.aaa:aQ F89 Tryz.f89 2=true:=by kernel_rfl
def Tryz.F90:Fs:={L:=[5]}
theorem Tryz.aab:aQ F90 Tryz.f90 2=true:=by kernel_rfl
def Tryz.F91:Fs:={L:=[2,3],LL:=[56,58],cr:=[(9,[0,2,4,1,3,5,6,7,8])]}
theorem Tryz.aac:aQ F91 Tryz.f91 2=true:=by kernel_rfl
def Tryz.F92:Fs:={L:=[5]}
theorem Tryz.aad:aQ F92 Tryz.f92 3=true:=by kernel_rfl
def Tryz.F93:Fs:={L:=[3,4,5]}
theorem Tryz.aae:aQ F93 Tryz.f93 3=true:=by kernel_rfl
def Tryz.F94:Fs:={}
theorem Tryz.aaf:aQ F94 Tryz.f94 3=true:=by kernel_rfl
def Tryz.F95:Fs:={L:=[2,3],LL:=[28,33],cr:=[(6,[0,2,5,7,1,3,6,8,4,9,10])]}
theorem Tryz.aag:aQ F95 Tryz.f95 2=true:=by kernel_rfl
def Tryz.F98:Fs:={cr:=[(3,[0,1,2,3,4,7,8,9,10,11,5,6,12,13])]}
theorem Tryz.aah:aQ F98 Tryz.f98 2=true:=by kernel_rfl
def Tryz.SM:Fs:={L:=[2,3,7,10,53],LL:=[31,32,34],cr:=[(8,[0,1,2,5,7,3,4,6,8,9,10,11,12])]}
theorem Tryz.SN:aQ SM Tryz.f120 2=true:=by kernel_rfl
def Tryz.I1:Fs:={L:=[2,3]}
theorem Tryz.FU:aQ I1 Tryz.f121 2=true:=by kernel_rfl
def Tryz.SO:Fs:={}
theorem Tryz.SP:aQ SO Tryz.f123 1=true:=by kernel_rfl
def Tryz.SQ:Fs:={}
theorem Tryz.SR:aQ SQ Tryz.f124 2=true:=by kernel_rfl
def Tryz.SS:Fs:={L:=[4,5,6,42]}
theorem Tryz.SU:aQ SS Tryz.f127 3=true:=by kernel_rfl
def Tryz.SV:Fs:={L:=[3,5]}
theorem Tryz.SW:aQ SV Tryz.f128 2=true:=by kernel_rfl
def Tryz.SX:Fs:={L:=[2,3,4,18],LL:=[16],cr:=[(5,[0,1,2,3,4,5,6])]}
theorem Tryz.SY:aQ SX Tryz.f129 2=true:=by kernel_rfl
def Tryz.SZ:Fs:={}
theorem Tryz.S0:aQ SZ Tryz.f131 2=true:=by kernel_rfl
def Tryz.S3:Fs:={L:=[6]}
theorem Tryz.S4:aQ S3 Tryz.f132 1=true:=by kernel_rfl
def Tryz.S5:Fs:={L:=[1,11]}
theorem Tryz.S6:aQ S5 Tryz.f133 1=true:=by kernel_rfl
def Tryz.S7:Fs:={L:=[5,6,7]}
theorem Tryz.S8:aQ S7 Tryz.f134 5=true:=by kernel_rfl
def Tryz.S9:Fs:={L:=[5]}
theorem Tryz.Ta:aQ S9 Tryz.f135 3=true:=by kernel_rfl
def Tryz.Tb:Fs:={cr:=[(6,[0,1,2,4,5,6,3,7,8])]}
theorem Tryz.Tc:aQ Tb Tryz.f136 2=true:=by kernel_rfl
def Tryz.Td:Fs:={}
theorem Tryz.Te:aQ Td Tryz.f137 1=true:=by kernel_rfl
def Tryz.Tf:Fs:={}
theorem Tryz.Tg:aQ Tf Tryz.f138 1=true:=by kernel_rfl
def Tryz.Th:Fs:={L:=[1,2],LL:=[4,6,8,11],cr:=[(1,[0,2,4,7,1,3,5,8,6,9,10,11])]}
theorem Tryz.Ti:aQ Th Tryz.f139 1=true:=by kernel_rfl
def Tryz.PK:Fs:={L:=[3]}
theorem Tryz.N6:aQ PK Tryz.f140 2=true:=by kernel_rfl
def Tryz.Tj:Fs:={L:=[2],LL:=[19,27],cr:=[(1,[0,1,2,4,5,6,3,7,8,9,10,11]),(2,[0,1,3,4,5,11,2,10,6,7,8,9,12,13,14])]}
theorem Tryz.Tk:aQ Tj Tryz.f141 2=true:=by kernel_rfl
def Tryz.My:Fs:={L:=[2,199],LL:=[84,99,122],cr:=[(0,[0,1,2,3,8,9,10,11,12,4,5,6,7,13,14,15]),(2,[0,1,2,3,4,6,7,8,9,16,5,10,11,12,13,14,15,17]),(13,[0,1,2,3,4,9,10,5,6,7,8,11,12,13]),(15,[0,1,2,3,8,10,11,9,4,5,6,7,12,13,14]),(21,[0,2,3,4,6,7,8,1,5,9,10,11,12,13,14,15]),(26,[0,1,2,4,5,6,3,7,8,9]),(28,[0,1,2,4,5,6,3,7,8,9])],trees:=[(39,(.one 0 (.one 1 (.one 2 (.one 4 (.one 5 (.one 6 (.one 11 (.one 12 (.one 13 (.alt 3 (.alt 7 (.one 8 (.one 9 (.one 10 (.one 14 (.one 15 (.one 16 (.one 17 (.one 18 (.one 19 .nil))))))))) (.alt 14 (.one 15 (.one 7 (.one 8 (.one 9 (.one 10 (.one 16 (.one 17 (.one 18 (.one 19 .nil))))))))) .fO)) (.alt 7 (.one 8 (.one 9 (.one 10 (.alt 3 (.one 14 (.one 15 (.one 16 (.one 17 (.one 18 (.one 19 .nil)))))) (.alt 14 (.one 15 (.alt 3 (.one 16 (.one 17 (.one 18 (.one 19 .nil)))) (.alt 16 (.one 3 (.one 17 (.one 18 (.one 19 .nil)))) .fO))) .fO))))) (.alt 14 (.one 15 (.alt 3 (.one 7 (.one 8 (.one 9 (.one 10 (.one 16 (.one 17 (.one 18 (.one 19 .nil)))))))) (.alt 7 (.one 8 (.one 9 (.one 10 (.alt 3 (.one 16 (.one 17 (.one 18 (.one 19 .nil)))) (.alt 16 (.one 3 (.one 17 (.one 18 (.one 19 .nil)))) .fO))))) .fO))) .fO)))))))))))))],M:=[171]}
theorem Tryz.I2:aQ My Tryz.f142 1=true:=by kernel_rfl
def Tryz.Tl:Fs:={L:=[2]}
theorem Tryz.Tm:aQ Tl Tryz.f143 2=true:=by kernel_rfl
def Tryz.Tn:Fs:={L:=[2]}
theorem Tryz.To:aQ Tn Tryz.f144 1=true:=by kernel_rfl
def Tryz.Tq:Fs:={L:=[2]}
theorem Tryz.Tr:aQ Tq Tryz.f145 1=true:=by kernel_rfl
def Tryz.Ts:Fs:={L:=[2]}
theorem Tryz.Tt:aQ Ts Tryz.f146 1=true:=by kernel_rfl
def Tryz.I3:Fs:={L:=[3,125],LL:=[17,64,86],cr:=[(3,[0,1,2,4,3,5,6]),(10,[0,1,2,3,5,6,4,7,8]),(12,[0,1,2,4,5,6,8,9,3,7,10,11]),(15,[0,1,2,3,5,6,7,10,4,8,9,11,12,13,14,15]),(16,[0,1,2,3,4,6,7,8,10,11,5,9,12,13,14,15,16,17,18])],trees:=[(6,(.one 1 (.one 2 (.one 3 (.one 5 (.one 6 (.one 7 (.one 10 (.alt 0 (.alt 4 (.one 8 (.one 9 (.one 11 (.one 12 (.one 13 (.one 14 .nil)))))) (.alt 8 (.one 9 (.one 11 (.one 4 (.one 12 (.one 13 (.one 14 .nil)))))) .fO)) (.alt 4 (.alt 0 (.one 8 (.one 9 (.one 11 (.one 12 (.one 13 (.one 14 .nil)))))) (.alt 8 (.one 9 (.one 11 (.one 12 (.one 0 (.one 13 (.one 14 .nil)))))) .fO)) (.alt 8 (.one 9 (.one 11 (.alt 0 (.one 4 (.one 12 (.one 13 (.one 14 .nil)))) (.alt 4 (.one 12 (.one 0 (.one 13 (.one 14 .nil)))) .fO)))) .fO)))))))))))],M:=[176]}
theorem Tryz.FV:aQ I3 Tryz.f147 2=true:=by kernel_rfl
def Tryz.Tu:Fs:={L:=[3]}
theorem Tryz.Tv:aQ Tu Tryz.f148 1=true:=by kernel_rfl
def Tryz.Tw:Fs:={}
theorem Tryz.Tx:aQ Tw Tryz.f149 2=true:=by kernel_rfl
def Tryz.Ty:Fs:={cr:=[(1,[0,1,2,3,5,6,7,8,4,9,10,11,12,13])]}
theorem Tryz.Tz:aQ Ty Tryz.f150 1=true:=by kernel_rfl
def Tryz.TA:Fs:={L:=[3]}
theorem Tryz.TB:aQ TA Tryz.f151 2=true:=by kernel_rfl
def Tryz.TC:Fs:={L:=[3,5,82],LL:=[31,42],cr:=[(8,[0,1,2,3,5,6,4,7,8,9])],trees:=[(10,(.one 0 (.one 1 (.one 2 (.one 4 (.one 6 (.one 5 (.alt 3 (.one 7 (.one 8 (.one 9 .nil))) (.alt 7 (.one 3 (.one 8 (.one 9 .nil))) .fO)))))))))],M:=[174,175]}
theorem Tryz.TE:aQ TC Tryz.f152 2=true:=by kernel_rfl
def Tryz.PL:Fs:={L:=[3]}
theorem Tryz.N7:aQ PL Tryz.f153 2=true:=by kernel_rfl
def Tryz.TF:Fs:={L:=[2]}
theorem Tryz.TG:aQ TF Tryz.f154 1=true:=by kernel_rfl
def Tryz.TH:Fs:={}
theorem Tryz.TJ:aQ TH Tryz.f155 2=true:=by kernel_rfl
def Tryz.TK:Fs:={}
theorem Tryz.TL:aQ TK Tryz.f156 2=true:=by kernel_rfl
def Tryz.TM:Fs:={cr:=[(3,[0,1,2,3,4,7,8,9,10,11,5,6,12,13])]}
theorem Tryz.TN:aQ TM Tryz.f157 2=true:=by kernel_rfl
def Tryz.TO:Fs:={L:=[1,2,3,16]}
theorem Tryz.TP:aQ TO Tryz.f158 1=true:=by kernel_rfl
def Tryz.TQ:Fs:={L:=[4,5],LL:=[25,30,45,50],cr:=[(6,[0,1,3,6,8,2,4,7,9,5,10,11,12]),(11,[0,1,3,6,8,2,4,7,9,5,10,11,12])]}
theorem Tryz.TR:aQ TQ Tryz.f159 3=true:=by kernel_rfl
def Tryz.TS:Fs:={L:=[1,2],LL:=[4,7,11],trees:=[(1,(.one 0 (.one 3 (.one 7 (.one 1 (.one 4 (.one 8 (.alt 2 (.alt 5 (.one 6 (.one 9 (.one 10 (.one 11 .nil)))) (.alt 6 (.one 5 (.one 9 (.one 10 (.one 11 .nil)))) .fO)) (.alt 6 (.one 2 (.one 5 (.one 9 (.one 10 (.one 11 .nil))))) .fO)))))))))]}
theorem Tryz.TT:aQ TS Tryz.f160 1=true:=by kernel_rfl
def Tryz.TU:Fs:={L:=[4,5,7,8,10]}
theorem Tryz.TV:aQ TU Tryz.f161 4=true:=by kernel_rfl
def Tryz.TW:Fs:={L:=[5,6,8,9,12],LL:=[14,20,21,23,28,46,48,52,53,55,56,57],cr:=[(1,[0,2,1,3,4,5,6,9,11,7,8,10,12,13,15,14,16,17,18]),(7,[0,1,3,2,4,5,6,7,10,8,9,11,12,13,14,15,16,17])]}
theorem Tryz.TX:aQ TW Tryz.f162 5=true:=by kernel_rfl
def Tryz.TY:Fs:={L:=[1]}
theorem Tryz.TZ:aQ TY Tryz.f163 1=true:=by kernel_rfl
def Tryz.T0:Fs:={L:=[3]}
theorem Tryz.T1:aQ T0 Tryz.f164 3=true:=by kernel_rfl
def Tryz.T2:Fs:={}
theorem Tryz.T3:aQ T2 Tryz.f165 2=true:=by kernel_rfl
def Tryz.T4:Fs:={L:=[5,6,12,15,16,44,82,118,153,165]}
theorem Tryz.T5:aQ T4 Tryz.f167 4=true:=by kernel_rfl
def Tryz.T6:Fs:={L:=[1]}
theorem Tryz.T7:aQ T6 Tryz.f168 1=true:=by kernel_rfl
def Tryz.T8:Fs:={L:=[2,3,20]}
theorem Tryz.T9:aQ T8 Tryz.f169 2=true:=by kernel_rfl
def Tryz.Ua:Fs:={L:=[3,9],LL:=[14],cr:=[(1,[0,1,2,4,3,5,6]),(12,[0,1,2,3,5,6,7,8,13,4,9,10,11,12,14,15,16,17])]}
theorem Tryz.Ub:aQ Ua Tryz.f170 2=true:=by kernel_rfl
def Tryz.Uc:Fs:={L:=[3,30],LL:=[29],trees:=[(3,(.one 0 (.one 1 (.one 2 (.one 3 (.one 5 (.one 6 (.one 7 (.one 8 (.one 13 (.one 14 (.alt 4 (.one 9 (.one 10 (.one 11 (.one 12 (.one 15 (.one 16 (.one 17 (.one 18 .nil)))))))) (.alt 9 (.one 10 (.one 11 (.one 12 (.alt 4 (.one 15 (.one 16 (.one 17 (.one 18 .nil)))) (.alt 15 (.one 4 (.one 16 (.one 17 (.one 18 .nil)))) .fO))))) .fO)))))))))))))]}
theorem Tryz.Ud:aQ Uc Tryz.f171 2=true:=by kernel_rfl
def Tryz.I4:Fs:={L:=[4],LL:=[22,45],cr:=[(5,[0,1,2,4,5,3,6]),(11,[0,1,2,4,5,6,8,9,10,3,7,11,12])],trees:=[(6,(.one 0 (.one 1 (.one 2 (.one 3 (.one 5 (.one 6 (.one 7 (.one 12 (.one 13 (.one 14 (.one 20 (.one 23 (.one 21 (.alt 4 (.alt 8 (.one 9 (.one 10 (.alt 11 (.one 15 (.one 16 (.one 17 (.one 18 (.one 19 (.one 22 (.one 24 .nil))))))) (.alt 15 (.one 16 (.one 11 (.one 17 (.one 18 (.one 19 (.one 22 (.one 24 .nil))))))) .fO)))) (.alt 15 (.one 16 (.one 8 (.one 9 (.one 10 (.one 11 (.one 17 (.one 18 (.one 19 (.one 22 (.one 24 .nil)))))))))) .fO)) (.alt 8 (.one 9 (.one 10 (.alt 4 (.alt 11 (.one 15 (.one 16 (.one 17 (.one 18 (.one 19 (.one 22 (.one 24 .nil))))))) (.alt 15 (.one 16 (.one 11 (.one 17 (.one 18 (.one 19 (.one 22 (.one 24 .nil))))))) .fO)) (.alt 11 (.alt 4 (.one 15 (.one 16 (.one 17 (.one 18 (.one 19 (.one 22 (.one 24 .nil))))))) (.alt 15 (.one 16 (.one 17 (.one 18 (.alt 4 (.one 19 (.one 22 (.one 24 .nil))) (.alt 19 (.one 4 (.one 22 (.one 24 .nil))) .fO))))) .fO)) (.alt 15 (.one 16 (.alt 4 (.one 11 (.one 17 (.one 18 (.one 19 (.one 22 (.one 24 .nil)))))) (.alt 11 (.one 17 (.one 18 (.alt 4 (.one 19 (.one 22 (.one 24 .nil))) (.alt 19 (.one 4 (.one 22 (.one 24 .nil))) .fO)))) .fO))) .fO))))) (.alt 15 (.one 16 (.alt 4 (.one 8 (.one 9 (.one 10 (.one 11 (.one 17 (.one 18 (.one 19 (.one 22 (.one 24 .nil))))))))) (.alt 8 (.one 9 (.one 10 (.alt 4 (.one 11 (.one 17 (.one 18 (.one 19 (.one 22 (.one 24 .nil)))))) (.alt 11 (.one 17 (.one 18 (.alt 4 (.one 19 (.one 22 (.one 24 .nil))) (.alt 19 (.one 4 (.one 22 (.one 24 .nil))) .fO)))) .fO)))) .fO))) .fO)))))))))))))))))],M:=[85,196]}
theorem Tryz.FW:aQ I4 Tryz.f172 3=true:=by kernel_rfl
def Tryz.AO:Fs:={L:=[4,7],LL:=[14,21,36,39,71,87,105,111,122,128,139,154,157],cr:=[(3,[0,1,3,4,5,6,8,2,9,7,10,11]),(14,[0,1,2,4,6,7,8,11,12,5,3,9,13,10,14,15]),(16,[0,1,2,3,5,11,6,12,4,7,8,9,10,13,14,15]),(18,[0,1,2,4,10,12,13,5,11,3,14,6,7,8,9,15,16]),(21,[0,1,2,3,4,5,6,7,9,10,11,18,16,19,20,8,12,13,14,15,17,21,22,23])],trees:=[(7,(.one 0 (.one 1 (.one 4 (.one 8 (.one 9 (.one 10 (.one 2 (.one 5 (.alt 3 (.alt 6 (.alt 7 (.one 11 (.one 12 (.one 13 .nil))) (.alt 11 (.one 7 (.one 12 (.one 13 .nil))) .fO)) (.alt 11 (.one 6 (.one 7 (.one 12 (.one 13 .nil)))) .fO)) (.alt 11 (.one 3 (.one 6 (.one 7 (.one 12 (.one 13 .nil))))) .fO))))))))))),(12,(.one 0 (.one 1 (.one 2 (.one 3 (.one 5 (.one 7 (.one 8 (.one 9 (.one 6 (.alt 4 (.one 10 (.one 11 (.one 12 (.one 13 (.one 14 .nil))))) (.alt 10 (.one 4 (.one 11 (.one 12 (.one 13 (.one 14 .nil))))) .fO))))))))))))],M:=[171,200]}
theorem Tryz.wu:aQ AO Tryz.f173 3=true:=by kernel_rfl
def Tryz.PM:Fs:={L:=[2,5]}
theorem Tryz.N8:aQ PM Tryz.f174 1=true:=by kernel_rfl
def Tryz.Ue:Fs:={L:=[3,22],LL:=[21],cr:=[(4,[0,1,2,3,5,6,4,7,8,9,10])]}
theorem Tryz.Uf:aQ Ue Tryz.f175 2=true:=by kernel_rfl
def Tryz.Mz:Fs:={cr:=[(8,[0,1,2,3,4,5,7,6,8,9,10,11,12,13,14,15,16,17,18,19,20,21,22,23,25,26,27,29,24,28,30,31,32,33,34])]}
theorem Tryz.I5:aQ Mz Tryz.f176 3=true:=by kernel_rfl
def Tryz.Ug:Fs:={L:=[3]}
theorem Tryz.Uh:aQ Ug Tryz.f177 1=true:=by kernel_rfl
def Tryz.Ui:Fs:={}
theorem Tryz.Uj:aQ Ui Tryz.f178 2=true:=by kernel_rfl
def Tryz.Uk:Fs:={L:=[5,29],LL:=[23],cr:=[(5,[0,2,3,4,1,5,6,7,8,9,10])]}
theorem Tryz.Ul:aQ Uk Tryz.f179 2=true:=by kernel_rfl
def Tryz.Um:Fs:={L:=[5,31]}
theorem Tryz.Un:aQ Um Tryz.f180 2=true:=by kernel_rfl
def Tryz.Uo:Fs:={}
theorem Tryz.Up:aQ Uo Tryz.f181 1=true:=by kernel_rfl
def Tryz.PN:Fs:={L:=[6],LL:=[49],cr:=[(9,[0,1,2,4,5,3,6,7])]}
theorem Tryz.N9:aQ PN Tryz.f182 3=true:=by kernel_rfl
def Tryz.PO:Fs:={L:=[8],LL:=[36],cr:=[(6,[0,1,2,4,5,3,6,7])]}
theorem Tryz.Oa:aQ PO Tryz.f183 4=true:=by kernel_rfl
def Tryz.Uq:Fs:={cr:=[(2,[0,1,2,3,4,5,6,8,9,10,11,13,16,17,7,12,14,15,18,19,20])]}
theorem Tryz.Ur:aQ Uq Tryz.f184 2=true:=by kernel_rfl
def Tryz.Us:Fs:={L:=[1,12]}
theorem Tryz.Ut:aQ Us Tryz.f185 1=true:=by kernel_rfl
def Tryz.Uu:Fs:={L:=[4,6],LL:=[27],cr:=[(7,[0,1,3,4,5,8,9,10,2,6,7,11,12,13])]}
theorem Tryz.Uv:aQ Uu Tryz.f186 3=true:=by kernel_rfl
def Tryz.MA:Fs:={L:=[3,4,5,6,27],LL:=[34,35,38,47,49],cr:=[(8,[0,3,4,6,1,2,5,7,8,9,10,11,12,13,14,15,16]),(9,[1,3,7,0,2,4,5,6,8,9,10,11,12])]}
theorem Tryz.I6:aQ MA Tryz.f187 3=true:=by kernel_rfl
def Tryz.Uw:Fs:={L:=[4,5,6,11,13,15,17],LL:=[112,115,118,128,132,135],cr:=[(21,[1,2,5,9,0,3,6,4,7,8,10,11,12,13,14]),(23,[0,2,3,4,7,1,5,8,6,9,10,11,12,13,14,15,16])]}
theorem Tryz.Ux:aQ Uw Tryz.f188 3=true:=by kernel_rfl
def Tryz.Uy:Fs:={L:=[4,5,6,9],LL:=[30,32,34,46,48,50,76,78],cr:=[(8,[1,3,0,2,4,5,6,7,8,9,10,11]),(12,[0,2,4,6,7,1,3,5,8,9,10,11]),(20,[1,3,4,0,2,5,6,7,8,9,10,11])]}
theorem Tryz.Uz:aQ Uy Tryz.f189 3=true:=by kernel_rfl
def Tryz.UA:Fs:={L:=[4,5,7],LL:=[10,17,18,20],cr:=[(1,[0,2,1,3,4,5,6,7,10,12,8,9,11,13,14,15,16,17])]}
theorem Tryz.UB:aQ UA Tryz.f190 4=true:=by kernel_rfl
def Tryz.UC:Fs:={L:=[2,3,4],LL:=[7,10],trees:=[(1,(.one 1 (.one 4 (.one 2 (.one 5 (.one 6 (.alt 0 (.alt 3 (.one 7 (.one 8 (.one 9 .nil))) (.alt 7 (.one 3 (.one 8 (.one 9 .nil))) .fO)) (.alt 7 (.one 0 (.one 3 (.one 8 (.one 9 .nil)))) .fO))))))))]}
theorem Tryz.UD:aQ UC Tryz.f191 2=true:=by kernel_rfl
def Tryz.UE:Fs:={L:=[4,5,6,7,8]}
theorem Tryz.UF:aQ UE Tryz.f192 4=true:=by kernel_rfl
def Tryz.UG:Fs:={L:=[2]}
theorem Tryz.UH:aQ UG Tryz.f194 2=true:=by kernel_rfl
def Tryz.UI:Fs:={L:=[2,3]}
theorem Tryz.UJ:aQ UI Tryz.f195 2=true:=by kernel_rfl
def Tryz.UK:Fs:={L:=[45],trees:=[(4,(.one 0 (.one 1 (.one 2 (.one 4 (.one 5 (.one 6 (.one 11 (.one 12 (.one 13 (.one 14 (.alt 3 (.one 7 (.one 8 (.one 9 (.one 10 (.one 15 (.one 16 (.one 17 (.one 18 .nil)))))))) (.alt 7 (.one 8 (.one 9 (.one 10 (.alt 3 (.one 15 (.one 16 (.one 17 (.one 18 .nil)))) (.alt 15 (.one 3 (.one 16 (.one 17 (.one 18 .nil)))) .fO))))) .fO)))))))))))))]}
theorem Tryz.UL:aQ UK Tryz.f196 3=true:=by kernel_rfl
def Tryz.UM:Fs:={L:=[4]}
theorem Tryz.UN:aQ UM Tryz.f197 3=true:=by kernel_rfl
def Tryz.UO:Fs:={L:=[3,9]}
theorem Tryz.UP:aQ UO Tryz.f198 3=true:=by kernel_rfl
def Tryz.UQ:Fs:={L:=[3],LL:=[47],cr:=[(1,[0,1,2,4,5,6,11,12,13,3,7,8,9,10,14,15,16,17,18,19,20,21,22,23]),(4,[0,1,2,4,3,5,6,7]),(5,[0,1,2,4,5,6,3,7,8,9])]}
theorem Tryz.UR:aQ UQ Tryz.f199 2=true:=by kernel_rfl
def Tryz.US:Fs:={L:=[18,35],trees:=[(6,(.one 0 (.one 1 (.one 2 (.one 4 (.one 5 (.one 6 (.one 11 (.one 12 (.one 13 (.one 14 (.alt 3 (.one 7 (.one 8 (.one 9 (.one 10 (.one 15 (.one 16 (.one 17 (.one 18 .nil)))))))) (.alt 7 (.one 8 (.one 9 (.one 10 (.alt 3 (.one 15 (.one 16 (.one 17 (.one 18 .nil)))) (.alt 15 (.one 3 (.one 16 (.one 17 (.one 18 .nil)))) .fO))))) .fO)))))))))))))]}
theorem Tryz.UT:aQ US Tryz.f200 3=true:=by kernel_rfl
def Tryz.UU:Fs:={}
theorem Tryz.UW:aQ UU Tryz.f201 1=true:=by kernel_rfl
def Tryz.UX:Fs:={cr:=[(9,[0,1,2,3,4,5,6,7,8,9])]}
theorem Tryz.UY:aQ UX Tryz.f202 2=true:=by kernel_rfl
def Tryz.UZ:Fs:={}
theorem Tryz.U0:aQ UZ Tryz.f203 1=true:=by kernel_rfl
def Tryz.PR:Fs:={L:=[4],LL:=[8,20,43],cr:=[(1,[0,1,2,3,4,5,6,7,12,13,14,8,9,10,11,15,16,17,18,19,20]),(5,[0,1,2,7,8,9,3,4,5,6,10,11])]}
theorem Tryz.Oc:aQ PR Tryz.f204 3=true:=by kernel_rfl
def Tryz.U1:Fs:={}
theorem Tryz.U2:aQ U1 Tryz.f205 1=true:=by kernel_rfl
def Tryz.U3:Fs:={L:=[5]}
theorem Tryz.U4:aQ U3 Tryz.f206 4=true:=by kernel_rfl
def Tryz.U5:Fs:={}
theorem Tryz.U6:aQ U5 Tryz.f207 3=true:=by kernel_rfl
def Tryz.U7:Fs:={L:=[3]}
theorem Tryz.U8:aQ U7 Tryz.f208 2=true:=by kernel_rfl
def Tryz.U9:Fs:={}
theorem Tryz.Va:aQ U9 Tryz.f209 3=true:=by kernel_rfl
def Tryz.Vb:Fs:={L:=[2]}
theorem Tryz.Vd:aQ Vb Tryz.f210 1=true:=by kernel_rfl
def Tryz.PS:Fs:={L:=[3,22],LL:=[21],cr:=[(2,[0,1,2,3,4,6,7,5,8,9,10,11,12])]}
theorem Tryz.Od:aQ PS Tryz.f211 2=true:=by kernel_rfl
def Tryz.PU:Fs:={L:=[3,6,26]}
theorem Tryz.Oe:aQ PU Tryz.f212 3=true:=by kernel_rfl
def Tryz.Ve:Fs:={}
theorem Tryz.Vf:aQ Ve Tryz.f213 1=true:=by kernel_rfl
def Tryz.Vg:Fs:={L:=[4,7,9],LL:=[22,27,30,34,35],cr:=[(4,[0,2,3,4,8,1,6,5,7,9]),(5,[0,1,2,3,4,7,8,9,5,6,10,11,12])]}
theorem Tryz.Vh:aQ Vg Tryz.f214 4=true:=by kernel_rfl
def Tryz.Vi:Fs:={L:=[2,3]}
theorem Tryz.Vj:aQ Vi Tryz.f215 2=true:=by kernel_rfl
def Tryz.Vk:Fs:={cr:=[(1,[5,0,1,2,3,4,6,7,8])]}
theorem Tryz.Vm:aQ Vk Tryz.f216 3=true:=by kernel_rfl
def Tryz.Vn:Fs:={L:=[2]}
theorem Tryz.Vo:aQ Vn Tryz.f217 1=true:=by kernel_rfl
def Tryz.Vp:Fs:={}
theorem Tryz.Vq:aQ Vp Tryz.f218 2=true:=by kernel_rfl
def Tryz.Vr:Fs:={}
theorem Tryz.Vs:aQ Vr Tryz.f219 2=true:=by kernel_rfl
def Tryz.Vt:Fs:={L:=[7,8,9,10]}
theorem Tryz.Vu:aQ Vt Tryz.f220 3=true:=by kernel_rfl
def Tryz.Vv:Fs:={}
theorem Tryz.Vw:aQ Vv Tryz.f221 1=true:=by kernel_rfl
def Tryz.Vx:Fs:={}
theorem Tryz.Vy:aQ Vx Tryz.f222 1=true:=by kernel_rfl
def Tryz.Vz:Fs:={L:=[4,5,6,7],LL:=[28,32,37,51,55,60],cr:=[(7,[0,2,3,4,6,9,11,1,5,7,10,12,8,13,14,15,16]),(11,[0,2,3,4,6,9,11,1,5,7,10,12,8,13,14,15,16])]}
theorem Tryz.VA:aQ Vz Tryz.f223 3=true:=by kernel_rfl
def Tryz.VB:Fs:={}
theorem Tryz.VC:aQ VB Tryz.f225 2=true:=by kernel_rfl
def Tryz.VD:Fs:={}
theorem Tryz.VE:aQ VD Tryz.f226 3=true:=by kernel_rfl
def Tryz.VF:Fs:={}
theorem Tryz.VG:aQ VF Tryz.f227 3=true:=by kernel_rfl
def cL (x:Int):Prop:=-9223372036854775808<=x/\x<=9223372036854775807
structure dR where
 bN:Int
 fields:List Int
structure dH where
 told:Bool
 locals:List Int
 stack:List Int
structure dX where
 kind:Int
 a:Int
 b:Int
structure mU where
 lo:Int
 hi:Int
 to:Int
 cls:Int
structure cB where
 cls:Int
 eL:Int
 args:List Int
 out:Int
 locals:Int
 code:List dX
 aL:List dH
 catches:List mU
structure aU where
 J:List dR
 methods:List cB
structure Vl where
 ref:Bool
 n:Int
structure Ob where
 cls:Int
 bE:List Vl
structure bU where
 ah:Int
 pc:Int
 locals:List Vl
 stack:List Vl
structure bZ where
 objs:List Ob
 ag:List bU
 said:List Int
 steps:Int
 fin:Int
 out:Vl
theorem AP {h:Heap} {b:Nat}:∀ {n off:Nat} {vs:List Value},eG h b off n=some vs->vs.length=n
 | 0,_,vs,hr=>by simp only[eG,Option.some.injEq]at hr;subst hr;rfl
 | n+1,off,vs,hr=>by
  simp only[eG]at hr;split at hr
  ·rename_i v r h1 h2;simp only[Option.some.injEq]at hr;subst hr;simp[AP h2]
  ·cases hr
theorem aK {h:Heap} {b:Nat}:∀ {n off:Nat} {vs:List Value},eG h b off n=some vs->∀ {i:Nat} {v:Value},vs[i]? = some v->rd h b (off+i)=some v
 | 0,_,vs,hr,i,v,hv=>by simp only[eG,Option.some.injEq]at hr;subst hr;simp at hv
 | n+1,off,vs,hr,i,v,hv=>by
  simp only[eG]at hr;split at hr
  ·rename_i x r h1 h2;simp only[Option.some.injEq]at hr;subst hr;cases i with
   | zero=>simp at hv;subst hv;exact h1
   | succ i =>
    have:=aK h2 (i:=i) (v:=v) (by simpa using hv);rw[show off+(i+1)=off+1+i by omega];exact this
  ·cases hr
def Row {α:Type} (size:Nat) (R:Heap->List Value->α->Prop) (h:Heap) (v:Value) (l:List α):Prop :=
 l.length<=140737488351232/\∃ p c,v=.slice p l.length c/\l.length<=c/\(l=[]\/∃ b off,p=some ⟨b,off,none⟩/\∀ i x,l[i]? = some x->∃ vs,eG h b (off+i*size) size=some vs/\R h vs x)
theorem bK {h h':Heap} (hl:h.le h') {b n off:Nat} {vs:List Value} (hr:eG h b off n=some vs):eG h' b off n=some vs:=iI hl n off vs hr
theorem Row.le {α:Type} {size:Nat} {R:Heap->List Value->α->Prop} {h h':Heap} {v:Value} {l:List α} (hl:h.le h') (hR:∀ vs x,R h vs x->R h' vs x) (hr:Row size R h v l):Row size R h' v l:=by
 obtain⟨h1,p,c,rfl,h2,h3⟩:=hr;refine⟨h1,p,c,rfl,h2,h3.imp id ?_⟩;rintro⟨b,off,rfl,hx⟩;refine⟨b,off,rfl,λi x hi=>?_⟩;obtain⟨vs,ha,U⟩:=hx i x hi;exact⟨vs,bK hl ha,hR _ _ U⟩
theorem Row.get {α:Type} {size:Nat} {R:Heap->List Value->α->Prop} {h:Heap} {p:Option Addr} {n c:Nat} {l:List α} (hr:Row size R h (.slice p n c) l) {i:Nat} (hi:i < l.length) :
  ∃ b off vs,p=some ⟨b,off,none⟩/\eG h b (off+i*size) size=some vs/\R h vs l[i]:=by
 obtain⟨_,p',c',he,_,h3⟩:=hr;simp only[Value.slice.injEq]at he;obtain⟨rfl,rfl,rfl⟩:=he;rcases h3 with rfl|⟨b,off,rfl,hx⟩
 ·simp at hi
 ·obtain⟨vs,ha,U⟩:=hx i l[i] (by simp[hi]);exact⟨b,off,vs,rfl,ha,U⟩
theorem Row.len {α:Type} {size:Nat} {R:Heap->List Value->α->Prop} {h:Heap} {v:Value} {l:List α} (hr:Row size R h v l):∃ p c,v=.slice p l.length c/\l.length<=c/\l.length<=140737488351232:=by
 obtain⟨h1,p,c,he,h2,_⟩:=hr;exact⟨p,c,he,h2,h1⟩
def VH (_:Heap) (vs:List Value) (x:Int):Prop:=vs=[.int .i64 x]/\cL x
abbrev cT:=Row 1 VH
def CG (h:Heap) (vs:List Value) (c:dR):Prop:=∃ f,vs=[.int .i64 c.bN,f]/\cL c.bN/\cT h f c.fields
def lV (h:Heap) (vs:List Value) (s:dH):Prop:=∃ l k,vs=[.bool s.told,l,k]/\cT h l s.locals/\cT h k s.stack
def CH (_:Heap) (vs:List Value) (x:dX):Prop:=vs=[.int .i64 x.kind,.int .i64 x.a,.int .i64 x.b]/\cL x.kind/\cL x.a/\cL x.b
def CI (_:Heap) (vs:List Value) (x:mU):Prop:=vs=[.int .i64 x.lo,.int .i64 x.hi,.int .i64 x.to,.int .i64 x.cls]/\cL x.lo/\cL x.hi/\cL x.to/\cL x.cls
def ee (h:Heap) (vs:List Value) (m:cB):Prop:=∃ a c s k,vs=[.int .i64 m.cls,.int .i64 m.eL,a,.int .i64 m.out,.int .i64 m.locals,c,s,k]/\cL m.cls/\cL m.eL/\cL m.out/\cL m.locals /\
 cT h a m.args/\Row 3 CH h c m.code/\Row 3 lV h s m.aL/\Row 4 CI h k m.catches
def dL (h:Heap) (vs:List Value) (u:aU):Prop:=∃ c m,vs=[c,m]/\Row 2 CG h c u.J/\Row 8 ee h m u.methods
theorem cT.le {h h':Heap} {v:Value} {l:List Int} (hl:h.le h') (hr:cT h v l):cT h' v l:=Row.le hl (λ_ _ hx=>hx) hr
theorem CG.le {h h':Heap} (hl:h.le h') {vs:List Value} {c:dR} (hr:CG h vs c):CG h' vs c:=by
 obtain⟨f,a,b,d⟩:=hr;exact⟨f,a,b,d.le hl⟩
theorem lV.le {h h':Heap} (hl:h.le h') {vs:List Value} {c:dH} (hr:lV h vs c):lV h' vs c:=by
 obtain⟨f,g,a,b,d⟩:=hr;exact⟨f,g,a,b.le hl,d.le hl⟩
theorem ee.le {h h':Heap} (hl:h.le h') {vs:List Value} {c:cB} (hr:ee h vs c):ee h' vs c:=by
 obtain⟨a,c,s,k,h0,h1,h2,h3,h4,h5,h6,h7,h8⟩:=hr;exact⟨a,c,s,k,h0,h1,h2,h3,h4,h5.le hl,h6.le hl (λ_ _ hx=>hx),h7.le hl (λ_ _ hx=>hx.le hl),h8.le hl (λ_ _ hx=>hx)⟩
theorem dL.le {h h':Heap} (hl:h.le h') {vs:List Value} {c:aU} (hr:dL h vs c):dL h' vs c:=by
 obtain⟨c,m,h0,h1,h2⟩:=hr;exact⟨c,m,h0,h1.le hl (λ_ _ hx=>hx.le hl),h2.le hl (λ_ _ hx=>hx.le hl)⟩
set_option maxRecDepth 100000
def isWord (n:Int):Bool:=decide (-128<=n/\n<=127)
@[irreducible] def w8 (n:Int):Int:=(n+128) % 256-128
def gS (op a b:Int):Int × Bool :=
 if isWord a/\isWord b then
  if op=1 then (w8 (a+b),true)else if op=2 then (w8 (a-b),true)else if op=3 then (w8 (a*b),true)
  else if op=4/\b≠0 then (w8 (a.tdiv b),true)else (0,false)
 else (0,false)
def RP (x:Int × Bool):Value:=.tuple #[.int .i64 x.1,.bool x.2]
theorem CJ (n:Int):IntKind.i8.wrap n=w8 n:=by
 simp[IntKind.wrap,IntKind.bits,IntKind.signed,w8];omega
theorem pO (n:Int) : -128<=w8 n/\w8 n<=127:=by unfold w8;omega
theorem eT {n:Int}:isWord n=true↔-128<=n/\n<=127:=by simp[isWord]
theorem tR {op a b:Int} (h:op < 1\/4 < op\/isWord a=false\/isWord b=false\/(op=4/\b=0)):gS op a b=(0,false):=by
 unfold gS;split
 ·rename_i hw;have h':op≠1/\op≠2/\op≠3/\¬(op=4/\b≠0):=by
   rcases h with h|h|h|h|h
   ·omega
   ·omega
   ·rw[hw.1]at h;cases h
   ·rw[hw.2]at h;cases h
   ·omega
  rw[if_neg h'.1,if_neg h'.2.1,if_neg h'.2.2.1,if_neg h'.2.2.2]
 ·rfl
theorem VI {n:Int} (h : -128<=n/\n<=127):w8 n=n:=by unfold w8;omega
theorem CK (n:Int) (h:Heap):Pure prog 66 [.int .i64 n] h (.bool (isWord n)):=by
 refine gN au func66 F66 ZR rfl ?_;conv=>whnf
 apply ax<;>intro h1;all_goals conv=>whnf
 all_goals exact⟨by simp[isWord,h1],rfl⟩
theorem er (n lo hi:Int) (h:Heap):Pure prog 43 [.int .i64 n,.int .i64 lo,.int .i64 hi] h (.bool (decide (lo<=n/\n<=hi))):=by
 refine gN au func43 F43 ZE rfl ?_;conv=>whnf
 apply ax<;>intro h1;all_goals conv=>whnf
 all_goals exact⟨by simp[h1],rfl⟩
theorem xS (n:Int) (h:Heap):Pure prog 54 [.int .i64 n] h (.bool (isWord n)):=by
 refine gN au func54 F54 ZL rfl ?_;conv=>whnf
 refine ay (er _ _ _ _) ?_;conv=>whnf
 exact⟨rfl,rfl⟩
theorem VJ (a b:Int) (h:Heap):Pure prog 67 [.int .i8 a,.int .i8 b] h (.int .i8 (w8 (a+b))):=by
 refine gN au func67 F67 ZS rfl ?_;conv=>whnf
 refine qn ?_;conv=>whnf
 exact⟨by rw[CJ],rfl⟩
theorem VK (a b:Int) (h:Heap):Pure prog 68 [.int .i8 a,.int .i8 b] h (.int .i8 (w8 (a-b))):=by
 refine gN au func68 F68 ZT rfl ?_;conv=>whnf
 refine qn ?_;conv=>whnf
 exact⟨by rw[CJ],rfl⟩
theorem VL (a b:Int) (h:Heap):Pure prog 69 [.int .i8 a,.int .i8 b] h (.int .i8 (w8 (a*b))):=by
 refine gN au func69 F69 ZU rfl ?_;conv=>whnf
 refine qn ?_;conv=>whnf
 exact⟨by rw[CJ],rfl⟩
theorem VM (a b:Int) (h:Heap) (U:b≠0):Pure prog 70 [.int .i8 a,.int .i8 b] h (.int .i8 (w8 (a.tdiv b))):=by
 refine gN au func70 F70 ZV rfl ?_;conv=>whnf
 refine ob U ?_;conv=>whnf
 refine qn ?_;conv=>whnf
 exact⟨by rw[CJ],rfl⟩
theorem PV {a b:Int} (ha : -128<=a/\a<=127) (U : -128<=b/\b<=127) : -16384<=a*b/\a*b<=16384:=by
 have h1:0<=(128-a)*(128-b):=Int.mul_nonneg (by omega) (by omega);have h2:0<=(128+a)*(128+b):=Int.mul_nonneg (by omega) (by omega);have h3:0<=(128-a)*(128+b):=Int.mul_nonneg (by omega) (by omega);have h4:0<=(128+a)*(128-b):=Int.mul_nonneg (by omega) (by omega);constructor<;>grind
theorem I7 {a b:Int} (ha : -128<=a/\a<=127) : -128<=a.tdiv b/\a.tdiv b<=128:=by
 have h:(a.tdiv b).natAbs<=a.natAbs:=by rw[Int.natAbs_tdiv];exact Nat.div_le_self _ _
 omega
theorem zT {op a b:Int} (ha:isWord a=true) (U:isWord b=true):gS op a b=if op=1 then (w8 (a+b),true)else if op=2 then (w8 (a-b),true)else if op=3 then (w8 (a*b),true)
  else if op=4/\b≠0 then (w8 (a.tdiv b),true)else (0,false):=by unfold gS;rw[if_pos ⟨ha,U⟩]
theorem w8w {a:Int} (ha:isWord a=true):IntKind.i8.wrap a=a:=by rw[CJ,VI (eT.1 ha)]
theorem I8 (op a b:Int) (h:Heap):Pure prog 32 [.int .i64 op,.int .i64 a,.int .i64 b] h (RP (gS op a b)):=by
 refine gN au func32 F32 Zu rfl ?_;by_cases hr:op=1\/op=2\/op=3\/op=4
 ·rcases hr with rfl|rfl|rfl|rfl;all_goals
   conv=>whnf
   repeat' ((first
    | apply ax<;>intro h1
    | apply bY<;>intro h1
    | refine ay (CK _ _) ?_
    | refine aq ?_
    | refine qn ?_
    | refine ay (VJ _ _ _) ?_
    | refine ay (VK _ _ _) ?_
    | refine ay (VL _ _ _) ?_
    | refine ay (VM _ _ _ (by rw[w8w (by assumption)];assumption)) ?_)<;>(conv=>whnf))
   all_goals first
    | (refine⟨?_,rfl⟩;rw[tR (by simp[*])];rfl)
    | (
     refine⟨?_,rfl⟩;have ha:isWord a=true:=by assumption
     have U:isWord b=true:=by assumption
     rw[zT ha U,w8w ha,w8w U,wrap_i64 (by have:=pO (a+b);have:=pO (a-b);have:=pO (a*b);have:=pO (a.tdiv b);omega) (by have:=pO (a+b);have:=pO (a-b);have:=pO (a*b);have:=pO (a.tdiv b);omega)];simp[RP, *])
 ·conv=>whnf
  repeat' ((first
   | apply ax<;>intro h1)<;>(conv=>whnf))
  all_goals first
   | (refine⟨?_,rfl⟩;rw[tR (by omega)];rfl)
   | (exfalso;omega)
theorem MB (n:Int) : -255<=n.tmod 256/\n.tmod 256<=255/\(n.tmod 256-n) % 256=0:=by
 rcases Int.lt_or_le n 0 with h|h
 ·have h1:n.tmod 256 = - ((-n) % 256):=by
   rw[show n = - (-n)by omega,Int.neg_tmod,Int.tmod_eq_emod_of_nonneg (by omega)];simp
  omega
 ·rw[Int.tmod_eq_emod_of_nonneg h];omega
theorem Ey (n:Int) (h:Heap):Pure prog 222 [.int .i64 n] h (.int .i64 (w8 n)):=by
 refine gN au func222 Vx Vy rfl ?_;have hm:=MB n;conv=>whnf
 refine aq ?_;conv=>whnf
 repeat' ((first
  | apply ax<;>intro h1
  | refine aj ?_)<;>(conv=>whnf))
 all_goals exact⟨by unfold w8;congr 1;omega,rfl⟩
theorem I9 (op a b:Int) (h:Heap):Pure prog 209 [.int .i64 op,.int .i64 a,.int .i64 b] h (RP (gS op a b)):=by
 refine gN au func209 U9 Va rfl ?_;conv=>whnf
 refine ay (xS _ _) ?_;conv=>whnf
 apply bY<;>intro h1;all_goals conv=>whnf
 ·exact⟨by rw[tR (by simp[*])];rfl,rfl⟩
 refine ay (xS _ _) ?_;conv=>whnf
 apply bY<;>intro h2;all_goals conv=>whnf
 ·exact⟨by rw[tR (by simp[*])];rfl,rfl⟩
 have ha:=eT.1 h1;have U:=eT.1 h2;have hm:=PV ha U;have hq:=I7 (b:=b) ha;repeat' ((first
  | apply ax<;>intro h3
  | apply aV<;>intro h3
  | refine aj ?_
  | refine aq ?_
  | refine ay (Ey _ _) ?_)<;>(conv=>whnf))
 all_goals (refine⟨?_,rfl⟩;rw[zT h1 h2];simp[RP, *])
end Go.Proofs
