/- Texts of the proof of peekPlays_holds, put together by a small program of ours (names shortened, spaces taken out). No condition beyond the given statement. -/
import Derived.Test.YtgfgglponbmgmaaGreatPKP2
import Derived.Test.YtgfgglponbmgmaaGreatPKP1
import Derived.RangeFuncNested
set_option linter.unusedVariables false
set_option linter.unusedSimpArgs false
set_option linter.unnecessarySimpa false
noncomputable section
section
namespace Go.Proofs.YtgfgglponbmgmaaGreatA.Am
open Go.RowKit (Below)
variable {P:Program} {μ:Mu} {H H':aa} {w:World} {B:Nat}
theorem cO.kill {i:Nat}(h:cO P μ H w B):cO P μ (H.kill i) w B:=by
 have old: ∀{j:Nat} {c:eU},(H.kill i).get j=some c→H.get j=some c:=by
  intro j c hc;by_cases e:j=i
  ·subst e;rw[aa.mc] at hc;cases hc
  ·rw[aa.iW e] at hc;exact hc
 exact⟨h.base,λj c hc=>h.ok j c (old hc),λj hj=>h.BA j (by rw[aa.fU] at hj;exact hj),
  λj k c d l m hc hd=>h.inj j k c d l m (old hc) (old hd),λj c l hc=>h.own j c l (old hc),h.dW.keep μ.le_refl (λ_ _=>aa.oB) (λ_ _ h _=>h),λk hk=>h.wg k (aa.sU hk).1⟩
theorem AA (wD:Nat): ∀(r c:Nat),c≤wD→Builtin.growBy wD r c≤2*wD+192
 |0,c,h=>by simp only[Builtin.growBy];omega
 |r+1,c,h=>by
  simp only[Builtin.growBy];split
  ·omega
  ·by_cases hc:c+(c+768)/4≤wD
   ·exact AA wD r _ hc
   ·cases r with
    |zero=>simp only[Builtin.growBy];omega
    |succ r=>simp only[Builtin.growBy];rw[if_pos (by omega)];omega
theorem Fo {need c:Nat}(h:c<need):Builtin.nextslicecap need c≤2*need+192:=by
 unfold Builtin.nextslicecap;split
 ·omega
 ·split
  ·omega
  ·exact AA need 4 c (by omega)
theorem oC {size n c:Nat}{a:Option Addr}{x':Value}{cs:List Value}(hS:cO P μ H w B)(hx:VR μ (.slice a n c) x'){m:Nat}(hm:m≤n)(h:cI H size m (.slice a n c)=some cs):
  cs.length=m*size∧cs.all aD=true∧∃fh,cW μ cs fh∧∀w2,w2.heap=w.heap→(Builtin.firstCells size m x').run P w2= .ok fh.toArray w2:=by
 unfold cI at h;split at h
 ·rename_i i off _ _ e;cases e;by_cases hm0:m=0
  ·subst hm0;rw[if_pos rfl] at h;cases h;rcases hx.eG with⟨i',MY,fi,l,e,hl,g1,g2,g3,rfl⟩|⟨i',MY,a',e,rfl,rfl,rfl⟩
   ·exact⟨by simp,by simp,[],.nil,λw2 _=>by simp[Builtin.firstCells,loadCells,loadCellsFrom]⟩
   ·exact⟨by simp,by simp,[],.nil,λw2 _=>by simp[Builtin.firstCells,loadCells,loadCellsFrom]⟩
  rw[if_neg hm0] at h;rcases hx.eG with⟨i',MY,fi,l,e,hl,g1,g2,g3,rfl⟩|⟨i',MY,a',e,rfl,rfl,rfl⟩
  ·cases e;obtain⟨hlen,fh,hv,hc⟩:=hS.aR hl h;refine⟨hlen,hS.MX h,fh,hv,λw2 he=>?_⟩
   have hr:=run_loadCells_list (P:=P) w2 ⟨l.b,l.o+off,none⟩ fh (λj v hj=>by rw[←hc j v hj];simp[World.cell?,he])
   rw[←hv.1,hlen] at hr;exact hr
  ·omega
 ·rename_i e;cases e;obtain⟨rfl,rfl,rfl⟩:=hx.ig;have hm0:m=0:=by omega
  subst hm0;simp only[if_true] at h;cases h;exact⟨by simp,by simp,[],.nil,λw2 _=>by simp[Builtin.firstCells]⟩
 ·cases h
theorem Fp {vZ qR elem ty:TypeId}{size bytes n sLen sCap:Nat}{i:TypeInfo}{z x x':Value}{new:List Value}(hS:cO P μ H w B)(hx:VR μ x x')(hu:P.underlying vZ=some (.slice elem))(hs:jG P elem=some size)(hi:P.info? elem=some i)(hib:i.bytes=bytes)(hz:zeroOf P elem=some z)(h:Jj P H qR size bytes z x=some (n,new))(base:Option Addr):
  new.length=n*size∧new.all aD=true∧∃gh,cW μ new gh∧
   (sLen+n≤sCap→(Builtin.append_ #[vZ,qR] ty #[.slice base sLen sCap,x']).run P w=
    ((match base with|some a=>storeCells (a.add (sLen*size)) gh|none=>pure ():Sem Unit).run P w).andThen λ_ w=>.ok (.slice base (sLen+n) sCap) w)∧
   (¬sLen+n≤sCap→sLen+n≤4294967296→bytes≤4096→∀im:List Value,(∀w2,w2.heap=w.heap→(Builtin.firstCells size sLen (.slice base sLen sCap)).run P w2= .ok im.toArray w2)→
    ∃eI,sLen+n≤eI∧(Builtin.append_ #[vZ,qR] ty #[.slice base sLen sCap,x']).run P w=
     .ok (.slice (some ⟨w.heap.size,0,none⟩) (sLen+n) eI) (w.drew.alloc (.cells (im.toArray++(gh.toArray++Builtin.zeroCells z.cells (eI-(sLen+n)))) elem))):=by
 obtain⟨E9,pG,m,hm,BD⟩:=dU hz w;rw[hs] at hm;cases hm;have TX: ¬sLen+n≤sCap→sLen+n≤4294967296→bytes≤4096→¬281474976710656<Builtin.nextslicecap (sLen+n) sCap*i.bytes:=by
  intro h1 h2 h3;have h4:=Fo (need:=sLen+n) (c:=sCap) (by omega)
  have h5:Builtin.nextslicecap (sLen+n) sCap*i.bytes≤(2*(sLen+n)+192)*4096:=Nat.mul_le_mul h4 (by omega)
  omega
 unfold Jj at h;split at h
 ·rename_i k l ZO;split at h
  ·rename_i hc;obtain⟨h0,h1,hby⟩:=hc;cases h;obtain rfl:=hx.int;have hw:IntKind.i64.wrap l=l:=by rw[IntKind.wrap_i64];omega
   have ZP: ¬l<0:=by omega
   have Jr: ¬281474976710656<l*(i.bytes:Int):=by
    have h2:(i.bytes:Int)≤4096:=by omega
    have:l*(i.bytes:Int)≤l*4096:=Int.mul_le_mul_of_nonneg_left h2 h0;omega
   have Vi:l.toNat*size=0→bL z.cells.toList l.toNat=[]:=λhe=>List.eq_nil_of_length_eq_zero (by rw[fj];simp[BD,he])
   have Y9: ¬l.toNat*size=0→Builtin.zeroCells z.cells l.toNat=(bL z.cells.toList l.toNat).toArray:=by
    intro he;have dz:z.cells.size≠0:=by rw[BD];intro e;rw[e] at he;simp at he
    rw[←mh _ _ dz]
   refine⟨by rw[fj];simp[BD],mF pG _,_,kJ pG _,?_,?_⟩
   ·intro jg;simp[Builtin.append_,run_underlying hu,run_underlying ZO,eu hs,jg,kR hi,asInt,asIntOf,hw,ZP,Jr];by_cases he:l.toNat*size=0
    ·rw[if_pos he,Vi he];cases base<;>simp
    ·rw[if_neg he];simp only[(dU hz _).1,Result.andThen_ok,Y9 he];cases base<;>simp
   ·intro jg wC wB im hold;refine⟨(Question.appendCap (sLen+l.toNat) sCap elem).cut (w.tape w.drawn (Question.appendCap (sLen+l.toNat) sCap elem)),?_,?_⟩
    ·simp[Question.cut]
    ·simp[Builtin.append_,run_underlying hu,run_underlying ZO,eu hs,jg,kR hi,asInt,asIntOf,hw,ZP,Jr,(dU hz _).1,Question.forced];rw[if_neg (by omega),if_neg (TX jg wC wB)]
     simp[hold w.drew rfl];by_cases he:l.toNat*size=0
     ·rw[if_pos he,Vi he];simp[newRow]
      try rfl
     ·rw[if_neg he,Y9 he];simp[newRow]
      try rfl
  ·cases h
 ·rename_i e2 a c ZO;rw[Option.map_eq_some_iff] at h;obtain⟨cs,q8,e⟩:=h;cases e;obtain⟨hle,a',c',rfl,_,_⟩:=hx.fg;obtain⟨hlen,wE,fh,hv,dH⟩:=oC (P:=P) hS hx (Nat.le_refl _) q8;refine⟨hlen,wE,fh,hv,?_,?_⟩
  ·intro jg;simp[Builtin.append_,run_underlying hu,run_underlying ZO,eu hs,Builtin.lenOf,jg,dH w rfl];cases base<;>simp
  ·intro jg wC wB im hold;refine⟨(Question.appendCap (sLen+n) sCap elem).cut (w.tape w.drawn (Question.appendCap (sLen+n) sCap elem)),?_,?_⟩
   ·simp[Question.cut]
   ·simp[Builtin.append_,run_underlying hu,run_underlying ZO,eu hs,Builtin.lenOf,jg,kR hi,(dU hz _).1,Question.forced];rw[if_neg (by omega),if_neg (TX jg wC wB)]
    simp[hold w.drew rfl,dH w.drew rfl];rfl
 ·cases h
theorem uK {z v:Value}(hz:fP z=true){m k:Nat}(h:(Builtin.zeroCells z.cells m)[k]? =some v):cu v=true:=by
 have ZQ:=Array.mem_of_getElem? h;have hz': ∀x∈z.cells.toList,cu x=true:=by
  intro x hx;cases z with
  |agg cs=>
   simp only[fP,List.all_eq_true] at hz;exact hz x (by simpa[Value.cells] using hx)
  |_=>simp only[Value.cells,List.mem_singleton] at hx;subst hx;exact hz
 unfold Builtin.zeroCells at ZQ;obtain⟨i,hi,rfl⟩:=Array.mem_map.1 ZQ;have qv:=Array.mem_range.1 hi;have Fq:0<z.cells.size:=by
  rcases Nat.eq_zero_or_pos z.cells.size with h0|h0
  ·rw[h0] at qv;simp at qv
  ·exact h0
 have gG:i%z.cells.size<z.cells.size:=Nat.mod_lt _ Fq;rw[getElem!_pos z.cells _ gG];exact hz' _ (by simp)
theorem wF {old new im gh:List Value}{z:Value}{size sLen n eI:Nat}{elem:TypeId}(hS:cO P μ H w B)(ho:cW μ old im)(hn:cW μ new gh)(h1:old.all aD=true)(h2:new.all aD=true)(wg:old.length=sLen*size)(hnl:new.length=n*size)(hz:z.cells.size=size)(hzp:fP z=true)(hs0:size≠0)(zM:sLen+n≤eI):
  Told P μ (.slice (some ⟨H.length,0,none⟩) (sLen+n) (sLen+n)) (H.new ⟨old++new,elem,size,false⟩) w B
   (.ok (.slice (some ⟨w.heap.size,0,none⟩) (sLen+n) eI) (w.drew.alloc (.cells (im.toArray++(gh.toArray++Builtin.zeroCells z.cells (eI-(sLen+n)))) elem))):=by
 have hzl:(Builtin.zeroCells z.cells (eI-(sLen+n))).size=(eI-(sLen+n))*size:=by
  have:=congrArg List.length (mh z.cells (eI-(sLen+n)) (by omega))
  rw[fj] at this;simp at this;rw[this,hz]
 have uJ:(im.toArray++(gh.toArray++Builtin.zeroCells z.cells (eI-(sLen+n)))).size=eI*size:=by
  have h1:=ho.1;have h2:=hn.1;have h3:(sLen+n)*size=sLen*size+n*size:=Nat.add_mul _ _ _;have h4:eI*size=(sLen+n)*size+(eI-(sLen+n))*size:=by rw[←Nat.add_mul];congr 1;omega
  simp[hzl];omega
 have hSd:cO P μ H w.drew B:=hS.heap rfl;obtain⟨g1,g2⟩:=hSd.alloc (old++new) elem elem size (im.toArray++(gh.toArray++Builtin.zeroCells z.cells (eI-(sLen+n)))) (eI*size) uJ.symm (by rw[List.all_append,h1,h2];rfl)
  (by have h1:=ho.1;have h2:=hn.1;simp;omega)
  (by
   have e:(im.toArray++(gh.toArray++Builtin.zeroCells z.cells (eI-(sLen+n)))).toList=(im++gh)++(Builtin.zeroCells z.cells (eI-(sLen+n))).toList:=by simp
   rw[e,List.take_append_of_le_length (by have h1:=ho.1;have h2:=hn.1;simp;omega),List.take_of_length_le (by have h1:=ho.1;have h2:=hn.1;simp;omega)]
   exact ho.append hn)
  (by
   intro k v hk Dg;have h1:=ho.1;have h2:=hn.1;rw[Array.getElem?_append_right (by simp at hk ⊢;omega),Array.getElem?_append_right (by simp at hk ⊢;omega)] at Dg
   exact uK hzp Dg)
 refine⟨_,_,_,rfl,g1,?_,g2,((eV.refl _ _).drew).alloc hSd.base _⟩;have:=VR.slice (μ:=μ.up H.length ⟨w.drew.heap.size,0,eI*size,size⟩) H.length 0 (sLen+n) (sLen+n) eI _ Mu.aP (Nat.le_refl _) zM (by simp)
 simpa using this
theorem zN {argTypes:Array TypeId}{ty:TypeId}{s s' x x' v:Value}(hS:cO P μ H w B)(hs:VR μ s s')(hx:VR μ x x')(h:oZ P argTypes s x H=some (v,H')):
  Told P μ v H' w B ((Builtin.append_ argTypes ty #[s',x']).run P w):=by
 unfold oZ at h;split at h
 ·rename_i vZ qR hs0 hx0;have oD:(Builtin.append_ argTypes ty #[s',x'])=(Builtin.append_ #[vZ,qR] ty #[s',x']):=by
   unfold Builtin.append_;simp only[hs0,hx0];rfl
  rw[oD];split at h
  ·rename_i elem base sLen sCap hu;split at h
   ·rename_i size bytes z uJ hbt hz;obtain⟨i,hi,hib⟩:=qu hbt;obtain⟨_,pG,m,hm,BD⟩:=dU hz w;rw[uJ] at hm;cases hm;split at h
    ·rename_i n new hg;obtain⟨ZR,wG,wH,rfl,Fl,hcc⟩:=hs.fg;obtain⟨hlen,wE,gh,Fs,jg,M6⟩:=Fp (ty:=ty) (sLen:=sLen) (sCap:=wH) hS hx hu uJ hi hib hz hg wG;have Dw:gh.length=n*size:=by rw[←Fs.1];exact hlen
     simp only at h;split at h
     ·
      rename_i hle;rw[jg (by omega)]
      cases base with
      |none=>
       obtain⟨rfl,rfl,e⟩:=hs.ig;cases e;simp only at h;cases h;have Hb:n=0:=by omega
       subst Hb;exact Told.same hS hs
      |some ad=>
       obtain⟨i',off,spot⟩:=ad;cases spot with
       |some _=>cases h
       |none=>
        simp only at h;split at h
        ·rename_i Hb;cases h;subst Hb;have:gh=[]:=List.eq_nil_of_length_eq_zero (by rw[Dw];simp)
         subst this;rcases hs.eG with⟨i2,nR,BF,l,e,hl,g1,g2,g3,e2⟩|⟨i2,nR,a2,e,rfl,rfl,e2⟩
         ·cases e2;simp only[storeCells,Sem.run_pure,Result.andThen_ok];exact Told.same hS hs
         ·cases e2;simp only[storeCells,Sem.run_pure,Result.andThen_ok];exact Told.same hS hs
        ·rename_i Hb;cases hb:H.get i' with
         |none=>rw[hb] at h;cases h
         |some b=>
          rw[hb] at h;simp only at h;split at h
          ·rename_i ZK;rw[Option.map_eq_some_iff] at h;obtain⟨H2,kq,e⟩:=h;cases e;rcases hs.eG with⟨i2,nR,BF,l,e,hl,g1,g2,g3,e2⟩|⟨i2,nR,a2,e,rfl,rfl,e2⟩
           ·cases e;cases e2;obtain⟨w',hr,sW,hB⟩:=hS.st hl kq Fs;rw[←Nat.add_assoc, ←jf (l.b) (l.o+off) (sLen*size)] at hr;simp only[hr,Result.andThen_ok];exact⟨_,μ,w',rfl,μ.le_refl,.slice i' off (sLen+n) sCap wH l hl hle hcc g3,sW,hB⟩
           ·omega
          ·cases h
     ·rename_i hle;split at h
      ·rename_i pW;simp only[Bool.and_eq_true,decide_eq_true_eq,ne_eq] at pW;obtain⟨⟨wC,hby⟩,Ft⟩:=pW;have Ft:size≠0:=by simpa using Ft
       cases base with
       |none=>
        obtain⟨rfl,rfl,e⟩:=hs.ig;cases e;simp only[if_true] at h;cases h;obtain⟨eI,zM,dH⟩:=M6 hle wC hby [] (λw2 _=>by simp[Builtin.firstCells])
        rw[dH];have:=wF (elem:=elem) (old:=[]) (im:=[]) (sLen:=0) hS .nil Fs rfl wE (by simp) hlen BD pG Ft zM
        simpa using this
       |some ad=>
        obtain⟨i',off,spot⟩:=ad;cases spot with
        |some _=>cases h
        |none=>
         simp only at h;cases hb:H.get i' with
         |none=>rw[hb] at h;cases h
         |some b=>
          rw[hb] at h;simp only at h;split at h
          ·rename_i dG;simp only[Bool.and_eq_true,Bool.not_eq_true',beq_iff_eq] at dG;obtain⟨⟨iK,ZK⟩,iQ⟩:=dG;cases uL:aR H i' off (sLen*size) with
           |none=>rw[uL] at h;cases h
           |some old=>
            rw[uL] at h;simp only at h;cases h;rcases hs.eG with⟨i2,nR,BF,l,e,hl,g1,g2,g3,e2⟩|⟨i2,nR,a2,e,rfl,rfl,e2⟩
            ·cases e;cases e2;obtain⟨DC,im,hold,Aw⟩:=hS.aR hl uL;by_cases Hc:sLen+n≤wH
             ·
              obtain⟨m,hm,k⟩:=hS.ok i' b hb;rw[hl] at hm;cases hm;obtain⟨cs,mQ,fz,r1,r2,r3,r4,r5⟩:=k.row;obtain rfl:=r3 iK;have Vj:l.es=size:=k.es.trans ZK;rw[Vj] at g3;have hmul:(sLen+n)*size≤wH*size:=Nat.mul_le_mul_right _ Hc;have aej:(sLen+n)*size=sLen*size+n*size:=Nat.add_mul _ _ _;have zK: ∀v∈gh,v.oneCell'=true:=Fs.Dq wE;have qZ:=run_storeCells_at (P:=P) l.b (l.o+off+sLen*size) mQ gh 0 cs w r1 (by omega) zK
              rw[jg Hc];simp only[jf,qZ,Result.andThen_ok];have Fu:cW μ (old++new) (((cs.toList.take (l.o+off+sLen*size+0)++gh++cs.toList.drop (l.o+off+sLen*size+0+gh.length)).toArray.toList.drop (l.o+off)).take (old++new).length):=by
               have q8:cs.toList.length=cs.size:=by simp
               have wg:im.length=sLen*size:=by rw[←hold.1];exact DC
               have e:(((cs.toList.take (l.o+off+sLen*size+0)++gh++cs.toList.drop (l.o+off+sLen*size+0+gh.length)).toArray.toList.drop (l.o+off)).take (old++new).length)=im++gh:=by
                apply List.ext_getElem?;intro j;simp only[Nat.add_zero,List.getElem?_take,List.getElem?_drop,List.getElem?_append,List.length_append,List.length_take,q8,DC,hlen];by_cases hj:j<im.length
                ·rw[if_pos (by omega),if_pos (by omega),if_pos (by omega),if_pos (by omega),if_pos hj]
                 have:=Aw j im[j] (List.getElem?_eq_getElem hj)
                 rw[jf] at this;simp only[World.cell?,r1] at this;rw[List.getElem?_eq_getElem hj, ←this];simp
                ·rw[if_neg hj];by_cases fM:j<sLen*size+n*size
                 ·rw[if_pos fM,if_pos (by omega),if_neg (by omega)]
                  congr 1;omega
                 ·rw[if_neg fM,List.getElem?_eq_none (by omega)]
               rw[e];exact hold.append Fs
              have Vm: ∀(TV:Array Value) ty3 Vg,(w.setRow l.b (cs.toList.take (l.o+off+sLen*size+0)++gh++cs.toList.drop (l.o+off+sLen*size+0+gh.length)).toArray).heap[l.b]? =some (.cells TV ty3 Vg)→∀(k:Nat) (v:Value),l.o+off+(old++new).length≤k→TV[k]? =some v→cu v=true:=by
               intro TV ty3 Vg g2 j v hj Dg;rw[setRow_heap w l.b cs _ mQ (0,0) r1] at g2;cases g2;have q8:cs.toList.length=cs.size:=by simp
               simp only[List.length_append,DC,hlen] at hj;refine(hS.ok i' b hb).elim λl0 ZP=>?_
               obtain⟨e0,k0⟩:=ZP;rw[hl] at e0;cases e0;have q3:(sLen+n)*size=sLen*size+n*size:=Nat.add_mul _ _ _;have q4:sCap*size≤(sLen+n)*size:=Nat.mul_le_mul_right _ (by omega)
               refine k0.spare iK cs mQ (0,0) r1 j v (by omega) ?_
               rw[←Dg];simp only[Nat.add_zero,List.getElem?_toArray,List.getElem?_append,List.length_append,List.length_take,q8,List.getElem?_drop];rw[if_neg (by omega), ←Array.getElem?_toList]
               congr 1;omega
              obtain⟨q1,q2⟩:=hS.move (b':=⟨old++new,elem,size,false⟩) (l':=⟨l.b,l.o+off,l.sz,size⟩) hb iK hl rfl (λk hk=>setRow_other w l.b k _ hk) (setRow_size _ _ _)
               ⟨rfl,by show(old++new).all aD=true;rw[List.all_append,hS.MX uL,wE];rfl,λ_=>Vm,_,mQ,(0,0),setRow_heap w l.b cs _ mQ (0,0) r1,by simp;omega,λ_=>rfl,by simp;omega,Fu⟩
              refine⟨_,_,_,rfl,q1,?_,q2,q7 (hS.own i' b l hb iK hl) (λo ho=>by rw[r1] at ho;cases ho;rfl)⟩
              have:=VR.slice (μ:=μ.up H.length ⟨l.b,l.o+off,l.sz,size⟩) H.length 0 (sLen+n) (sLen+n) wH _ Mu.aP (Nat.le_refl _) Hc (by simpa using g3)
              simpa using this
             ·obtain⟨eI,zM,dH⟩:=M6 Hc wC hby im (λw2 he=>by
               have hr:=run_loadCells_list (P:=P) w2 ⟨l.b,l.o+off,none⟩ im (λj v hj=>by rw[←Aw j v hj];simp[World.cell?,he])
               rw[←hold.1,DC] at hr;exact hr)
              rw[dH];have:=wF (elem:=elem) (hS.kill (i:=i')) hold Fs (hS.MX uL) wE DC hlen BD pG Ft zM
              rw[aa.fU] at this;exact this
            ·cases e;cases e2;obtain⟨eI,zM,dH⟩:=M6 (by omega) wC hby [] (λw2 he=>by simp[Builtin.firstCells,loadCells,loadCellsFrom])
             rw[dH];have ZS:old=[]:=List.eq_nil_of_length_eq_zero (by
              unfold aR at uL;rw[hb] at uL;simp only at uL;split at uL
              ·cases uL;simp
              ·cases uL)
             subst ZS;have:=wF (elem:=elem) (old:=[]) (im:=[]) (sLen:=0) (hS.kill (i:=i')) .nil Fs rfl wE (by simp) hlen BD pG Ft zM
             rw[aa.fU] at this;exact this
          ·cases h
      ·cases h
    ·cases h
   ·cases h
  ·cases h
 ·cases h
variable {P:Program} {μ:Mu} {H H':aa} {w w1:World} {B:Nat}
theorem mC.ne {b:eU}{l:Loc}(h:mC μ w b l){k:Nat}{x:Obj}(hk:w.heap[k]? =some x)(hx:x.isCells=false):l.b≠k:=by
 rintro rfl;obtain⟨cs,ty,fz,h1,_⟩:=h.row;rw[h1] at hk;cases hk;cases hx
theorem cO.kg (h:cO P μ H w B)(hw: ∀k,k<w.heap.size→w1.heap[k]? =w.heap[k]?)(hs:w.heap.size≤w1.heap.size){l:Nat}(hl:w.heap.size≤l){o:dB}(ho:mD P μ w1 o l):
  μ.le (μ.up H.length ⟨l,0,0,0⟩)∧cO P (μ.up H.length ⟨l,0,0,0⟩) (H.kg o) w1 B:=by
 have hle:=Mu.Dp (l:=⟨l,0,0,0⟩) (h.BA H.length (Nat.le_refl _));have back: ∀{i:Nat} {m:Loc},i<H.length→(μ.up H.length ⟨l,0,0,0⟩) i=some m→μ i=some m:=by
  intro i m hi hm
  rwa [Mu.dO (by omega)] at hm
 refine⟨hle,Nat.le_trans h.base hs,?_,?_,?_,?_,?_,λk hk=>by obtain⟨h1,h2⟩:=aa.Jl hk;rw[Mu.dO (by omega)];exact h.wg k h1⟩
 ·intro i b hb;have hb:=aa.qW hb;obtain⟨m,h1,h2⟩:=h.ok i b hb;exact⟨m,hle _ _ h1,(h2.mono hle).heap (hw _ h2.lt)⟩
 ·intro i hi;rw[aa.ov] at hi;rw[Mu.dO (by omega)];exact h.BA i (by omega)
 ·intro i j b c m n hb hc hm hn ME iK;have hb:=aa.qW hb;have hc:=aa.qW hc;exact h.inj i j b c m n hb hc (back (aa.ar hb) hm) (back (aa.ar hc) hn) ME iK
 ·intro i b m hb iK hm;have hb:=aa.qW hb;exact h.own i b m hb iK (back (aa.ar hb) hm)
 ·refine⟨?_,?_⟩
  ·intro i p hp;rcases aa.wj hp with⟨rfl,rfl⟩|⟨hi,hp⟩
   ·exact⟨_,Mu.aP,Nat.le_trans h.base hl,ho.mono hle⟩
   ·obtain⟨m,h1,h2,h3⟩:=h.dW.ok i p hp;exact⟨m,hle _ _ h1,h2,(h3.mono hle).heap (hw _ h3.lt)⟩
  ·intro i j p q m n hp hq hm hn ME;rcases aa.wj hp with⟨rfl,rfl⟩|⟨hi,Fv⟩<;>rcases aa.wj hq with⟨rfl,rfl⟩|⟨hj,qx⟩
   ·exact absurd rfl ME
   ·rw[Mu.aP] at hm;cases hm;obtain⟨n',e,_,k⟩:=h.dW.ok j q qx;have e2:=back hj hn;rw[e] at e2;cases e2;have:=k.lt;show l≠n.b;omega
   ·rw[Mu.aP] at hn;cases hn;obtain⟨m',e,_,k⟩:=h.dW.ok i p Fv;have e2:=back hi hm;rw[e] at e2;cases e2;have:=k.lt;show m.b≠l;omega
   ·exact h.dW.inj i j p q m n Fv qx (back hi hm) (back hj hn) ME
theorem cO.jF (h:cO P μ H w B){i:Nat}{o o':dB}{l:Loc}{x:Obj}(hi:H.dW i=some o)(hl:μ i=some l)(ho:mD P μ (w.putObj l.b x) o' l.b):cO P μ (H.jF i o') (w.putObj l.b x) B:=by
 obtain⟨l',e,hB,dG⟩:=h.dW.ok i o hi;rw[hl] at e;cases e;obtain⟨y,hy,hyc⟩:=dG.at;have hw: ∀k,k≠l.b→(w.putObj l.b x).heap[k]? =w.heap[k]? :=λk hk=>World.putObj_heap_other hk
 refine⟨by simpa using h.base,?_,λk hk=>h.BA k (by rw[aa.Dr] at hk;exact hk),?_,?_,⟨?_,?_⟩,λk hk=>h.wg k (aa.Jm hk).1⟩
 ·intro j b hb;rw[aa.wm hi] at hb;obtain⟨m,h1,h2⟩:=h.ok j b hb;exact⟨m,h1,h2.heap (hw _ (h2.ne hy hyc))⟩
 ·intro j k b c m n hb hc;rw[aa.wm hi] at hb hc;exact h.inj j k b c m n hb hc
 ·intro j b m hb;rw[aa.wm hi] at hb;exact h.own j b m hb
 ·intro j p hp;by_cases e:j=i
  ·subst e;rw[aa.pU (aa.wh hi)] at hp;cases hp;exact⟨l,hl,hB,ho⟩
  ·rw[aa.uf e] at hp;obtain⟨m,h1,h2,h3⟩:=h.dW.ok j p hp;exact⟨m,h1,h2,h3.heap (hw _ (h.dW.inj j i p o m l hp hi h1 hl e))⟩
 ·intro j k p q m n hp hq hm hn Av;have old: ∀{j:Nat} {p:dB},(H.jF i o').dW j=some p→∃p',H.dW j=some p':=by
   intro j p hp;by_cases e:j=i
   ·subst e;exact⟨_,hi⟩
   ·rw[aa.uf e] at hp;exact⟨_,hp⟩
  obtain⟨p',hp⟩:=old hp;obtain⟨q',hq⟩:=old hq;exact h.dW.inj j k p' q' m n hp hq hm hn Av
theorem cO.ZT (h:cO P μ H w B){i:Nat}{o:dB}{l:Loc}{x:Obj}(hi:H.dW i=some o)(hl:μ i=some l):cO P μ (H.kill i) (w.putObj l.b x) B:=by
 obtain⟨l',e,hB,dG⟩:=h.dW.ok i o hi;rw[hl] at e;cases e;obtain⟨y,hy,hyc⟩:=dG.at;have hw: ∀k,k≠l.b→(w.putObj l.b x).heap[k]? =w.heap[k]? :=λk hk=>World.putObj_heap_other hk
 refine⟨by simpa using h.base,?_,λk hk=>h.BA k (by rw[aa.fU] at hk;exact hk),?_,?_,⟨?_,?_⟩,λk hk=>h.wg k (aa.sU hk).1⟩
 ·intro j b hb;obtain⟨m,h1,h2⟩:=h.ok j b (aa.qX hb);exact⟨m,h1,h2.heap (hw _ (h2.ne hy hyc))⟩
 ·intro j k b c m n hb hc;exact h.inj j k b c m n (aa.qX hb) (aa.qX hc)
 ·intro j b m hb;exact h.own j b m (aa.qX hb)
 ·intro j p hp;have e:j≠i:=by rintro rfl;rw[aa.pV] at hp;cases hp
  have hp:=aa.oB hp;obtain⟨m,h1,h2,h3⟩:=h.dW.ok j p hp;exact⟨m,h1,h2,h3.heap (hw _ (h.dW.inj j i p o m l hp hi h1 hl e))⟩
 ·intro j k p q m n hp hq;exact h.dW.inj j k p q m n (aa.oB hp) (aa.oB hq)
theorem cO.QI (h:cO P μ H w B){D:Nat}{x y:Obj}(hD:w.heap[D]? =some y)(h1:y.isCells=false)(h2: ∀r,y≠ .loop r)(h3: ∀es c,y≠ .map es c):cO P μ H (w.putObj D x) B:=by
 have hw: ∀k,k≠D→(w.putObj D x).heap[k]? =w.heap[k]? :=λk hk=>World.putObj_heap_other hk
 refine⟨by simpa using h.base,?_,h.BA,h.inj,h.own,⟨?_,h.dW.inj⟩,h.wg⟩
 ·intro j b hb;obtain⟨m,h4,h5⟩:=h.ok j b hb;exact⟨m,h4,h5.heap (hw _ (h5.ne hD h1))⟩
 ·intro j p hp;obtain⟨m,h4,h5,h6⟩:=h.dW.ok j p hp;refine⟨m,h4,h5,h6.heap (hw _ ?_)⟩;rintro rfl;cases p with
  |loop L s=>obtain⟨r,N,g,_⟩:=h6;rw[hD] at g;cases g;exact h2 r rfl
  |E8 k es=>obtain⟨ms,c,g,_⟩:=h6;rw[hD] at g;cases g;exact h3 _ _ rfl
theorem mW {D:Nat}{x y:Obj}(hD:w.heap[D]? =some y)(hB:B≤D):Below B w (w.putObj D x):=
 (Below.refl B w).grown (grownBy_putObj' w D x) (by have:=(Array.getElem?_eq_some_iff.1 hD).1;omega) (λk e=>by cases e;omega)
theorem eV.rj {l:Nat}{r r':Loop}(hl:w.heap[l]? =some (.loop r))(hB:B≤l)(hd:r'.defers=r.defers):eV B w (w.putObj l (.loop r')):=by
 have gG:=(Array.getElem?_eq_some_iff.1 hl).1;refine⟨mW hl hB,?_,?_,by simp⟩
 ·intro b r0 hb;by_cases e:b=l
  ·subst e;rw[hl] at hb;cases hb;exact⟨r',World.putObj_heap_same gG,hd⟩
  ·exact⟨r0,by rw[World.putObj_heap_other e];exact hb,rfl⟩
 ·intro b hb;have e:b≠l:=by rintro rfl;rw[hl] at hb;cases hb
  rw[World.putObj_heap_other e];exact hb
theorem eV.BG {l:Nat}{es es':Array MapEntry}{c c':Nat}(hl:w.heap[l]? =some (.map es c))(hB:B≤l):eV B w (w.putObj l (.map es' c')):=by
 refine⟨mW hl hB,?_,?_,by simp⟩
 ·intro b r0 hb;have e:b≠l:=by rintro rfl;rw[hl] at hb;cases hb
  exact⟨r0,by rw[World.putObj_heap_other e];exact hb,rfl⟩
 ·intro b hb;have e:b≠l:=by rintro rfl;rw[hl] at hb;cases hb
  rw[World.putObj_heap_other e];exact hb
theorem eV.Vn {w0:World}{D:Nat}{x:Obj}(h:eV B w0 w)(hl:w.heap[D]? =some (.deferred (some [])))(hB:B≤D)(hD:w0.heap.size≤D):eV B w0 (w.putObj D x):=by
 refine⟨h.below.trans (mW hl hB),?_,?_,by simpa using h.size⟩
 ·intro b r0 hb;have:=(Array.getElem?_eq_some_iff.1 hb).1
  rw[World.putObj_heap_other (by omega)];exact h.loops b r0 hb
 ·intro b hb;have:=(Array.getElem?_eq_some_iff.1 hb).1
  rw[World.putObj_heap_other (by omega)];exact h.ZG b hb
abbrev TY (D:Nat):Deferred:={target:=.collected D,args:=#[]}
def Marks (w w':World)(a a':Act):Prop:=
 ∃Ds:List Nat,a'.defers=Ds.map TY++a.defers∧Ds.Nodup∧∀D∈Ds,w.heap.size≤D∧w'.heap[D]? =some (.deferred (some []))
theorem Marks.of_eq {w w':World}{a a':Act}(h:a'.defers=a.defers):Marks w w' a a':=⟨[],by simpa using h,List.nodup_nil,λD hD=>by cases hD⟩
theorem Marks.trans {w w1 w':World}{a a1 a':Act}(h:Marks w w1 a a1)(hb:eV B w w1)(M7:eV B w1 w')(k:Marks w1 w' a1 a'):Marks w w' a a':=by
 obtain⟨Ds,h1,h2,h3⟩:=h;obtain⟨Es,k1,k2,k3⟩:=k;refine⟨Es++Ds,by rw[k1,h1];simp,?_,?_⟩
 ·rw[List.nodup_append];refine⟨k2,h2,λx hx y hy e=>?_⟩
  subst e;have:=(k3 x hx).1
  have:=(Array.getElem?_eq_some_iff.1 (h3 x hy).2).1
  omega
 ·intro D hD;rcases List.mem_append.1 hD with hD|hD
  ·exact⟨Nat.le_trans hb.size (k3 D hD).1,(k3 D hD).2⟩
  ·exact⟨(h3 D hD).1,M7.ZG D (h3 D hD).2⟩
theorem Fw {ro:Option Nat}(iK: ∀l₀,ro=some l₀→∃r,w.heap[l₀]? =some (.loop r))(h:cO P μ H w B)(fn:FuncId)(a:Act)(ps:Array Tmp)(x y:Code):
  ∃(l:Nat) (mk:List Deferred) (w1:World) (r:Loop),(Instr.enterLoop fn a.tmps ps x y ro).run P w= .ok (l,mk) w1∧w1.heap[l]? =some (.loop r)∧r.params=ps∧r.assign=x∧r.body=y∧r.tmps=a.tmps∧r.state= .ready∧r.pending=none∧
   w.heap.size≤l∧eV B w w1∧(∀k,k<w.heap.size→w1.heap[k]? =w.heap[k]?)∧Marks w w1 a {a with defers:=mk++a.defers}:=by
 cases ro with
 |none=>
  refine⟨_,_,_,{state:=.ready,pending:=none,fn,tmps:=a.tmps,params:=ps,assign:=x,body:=y,defers:=w.heap.size},run_enterLoop_outer fn a.tmps ps x y,?_,rfl,rfl,rfl,rfl,rfl,rfl,by omega,?_,?_,?_⟩
  ·have:=World.alloc_heap_new (w.alloc (.deferred (some []))) (.loop {state:=.ready,pending:=none,fn,tmps:=a.tmps,params:=ps,assign:=x,body:=y,defers:=w.heap.size})
   rwa [World.size_alloc] at this
  ·exact((eV.refl B w).alloc h.base _).alloc (by have:=h.base;simp;omega) _
  ·intro k hk;rw[Below.heap_alloc _ _ _ (by simp;omega),Below.heap_alloc _ _ _ hk]
  ·refine⟨[w.heap.size],rfl,by simp,λD hD=>?_⟩
   simp only[List.mem_singleton] at hD;subst hD;refine⟨Nat.le_refl _,?_⟩;rw[Below.heap_alloc _ _ _ (by simp)];exact World.alloc_heap_new w _
 |some l₀=>
  obtain⟨r₀,hr⟩:=iK l₀ rfl;refine⟨_,_,_,{state:=.ready,pending:=none,fn,tmps:=a.tmps,params:=ps,assign:=x,body:=y,defers:=r₀.defers},run_enterLoop_inner hr fn a.tmps ps x y,?_,rfl,rfl,rfl,rfl,rfl,rfl,Nat.le_refl _,(eV.refl B w).alloc h.base _,λk hk=>Below.heap_alloc _ _ _ hk,Marks.of_eq (by simp)⟩
  exact World.alloc_heap_new w _
end Go.Proofs.YtgfgglponbmgmaaGreatA.Am
end
