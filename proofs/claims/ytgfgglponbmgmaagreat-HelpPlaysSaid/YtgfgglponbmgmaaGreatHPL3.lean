/- Texts of the proof of helpPlays_holds, put together by a small program of ours (names shortened, spaces taken out). No condition beyond the given statement. -/
import Derived.Test.YtgfgglponbmgmaaGreatHPL2
import Derived.Test.YtgfgglponbmgmaaGreatHPL1
import Derived.RangeFuncNested
set_option linter.unusedVariables false
set_option linter.unusedSimpArgs false
set_option linter.unnecessarySimpa false
noncomputable section
section
namespace Go.Proofs.YtgfgglponbmgmaaGreatA.Am
open Go.RowKit (Below)
variable {P:Program} {μ:Mu} {H H':aa} {w:World} {B:Nat}
theorem cQ.kill {i:Nat}(h:cQ P μ H w B):cQ P μ (H.kill i) w B:=by
 have old: ∀{j:Nat} {c:eW},(H.kill i).get j=some c→H.get j=some c:=by
  intro j c hc;by_cases e:j=i
  ·subst e;rw[aa.mq] at hc;cases hc
  ·rw[aa.jc e] at hc;exact hc
 exact⟨h.base,λj c hc=>h.ok j c (old hc),λj hj=>h.BI j (by rw[aa.fW] at hj;exact hj),
  λj k c d l m hc hd=>h.inj j k c d l m (old hc) (old hd),λj c l hc=>h.own j c l (old hc),h.ef.keep μ.le_refl (λ_ _=>aa.oD) (λ_ _ h _=>h),λk hk=>h.wB k (aa.td hk).1⟩
theorem AJ (wL:Nat): ∀(r c:Nat),c≤wL→Builtin.growBy wL r c≤2*wL+192
 |0,c,h=>by simp only[Builtin.growBy];omega
 |r+1,c,h=>by
  simp only[Builtin.growBy];split
  ·omega
  ·by_cases hc:c+(c+768)/4≤wL
   ·exact AJ wL r _ hc
   ·cases r with
    |zero=>simp only[Builtin.growBy];omega
    |succ r=>simp only[Builtin.growBy];rw[if_pos (by omega)];omega
theorem FZ {need c:Nat}(h:c<need):Builtin.nextslicecap need c≤2*need+192:=by
 unfold Builtin.nextslicecap;split
 ·omega
 ·split
  ·omega
  ·exact AJ need 4 c (by omega)
theorem oE {size n c:Nat}{a:Option Addr}{x':Value}{cs:List Value}(hS:cQ P μ H w B)(hx:VR μ (.slice a n c) x'){m:Nat}(hm:m≤n)(h:cJ H size m (.slice a n c)=some cs):
  cs.length=m*size∧cs.all aD=true∧∃fj,cY μ cs fj∧∀w2,w2.heap=w.heap→(Builtin.firstCells size m x').run P w2= .ok fj.toArray w2:=by
 unfold cJ at h;split at h
 ·rename_i i off _ _ e;cases e;by_cases hm0:m=0
  ·subst hm0;rw[if_pos rfl] at h;cases h;rcases hx.eK with⟨i',NO,fq,l,e,hl,g1,g2,g3,rfl⟩|⟨i',NO,a',e,rfl,rfl,rfl⟩
   ·exact⟨by simp,by simp,[],.nil,λw2 _=>by simp[Builtin.firstCells,loadCells,loadCellsFrom]⟩
   ·exact⟨by simp,by simp,[],.nil,λw2 _=>by simp[Builtin.firstCells,loadCells,loadCellsFrom]⟩
  rw[if_neg hm0] at h;rcases hx.eK with⟨i',NO,fq,l,e,hl,g1,g2,g3,rfl⟩|⟨i',NO,a',e,rfl,rfl,rfl⟩
  ·cases e;obtain⟨hlen,fj,hv,hc⟩:=hS.aR hl h;refine⟨hlen,hS.NN h,fj,hv,λw2 he=>?_⟩
   have hr:=run_loadCells_list (P:=P) w2 ⟨l.b,l.o+off,none⟩ fj (λj v hj=>by rw[←hc j v hj];simp[World.cell?,he])
   rw[←hv.1,hlen] at hr;exact hr
  ·omega
 ·rename_i e;cases e;obtain⟨rfl,rfl,rfl⟩:=hx.ig;have hm0:m=0:=by omega
  subst hm0;simp only[if_true] at h;cases h;exact⟨by simp,by simp,[],.nil,λw2 _=>by simp[Builtin.firstCells]⟩
 ·cases h
theorem F0 {wv qZ elem ty:TypeId}{size bytes n sLen sCap:Nat}{i:TypeInfo}{z x x':Value}{new:List Value}(hS:cQ P μ H w B)(hx:VR μ x x')(hu:P.underlying wv=some (.slice elem))(hs:jL P elem=some size)(hi:P.info? elem=some i)(hib:i.bytes=bytes)(hz:zeroOf P elem=some z)(h:Ke P H qZ size bytes z x=some (n,new))(base:Option Addr):
  new.length=n*size∧new.all aD=true∧∃gi,cY μ new gi∧
   (sLen+n≤sCap→(Builtin.append_ #[wv,qZ] ty #[.slice base sLen sCap,x']).run P w=
    ((match base with|some a=>storeCells (a.add (sLen*size)) gi|none=>pure ():Sem Unit).run P w).andThen λ_ w=>.ok (.slice base (sLen+n) sCap) w)∧
   (¬sLen+n≤sCap→sLen+n≤4294967296→bytes≤4096→∀iw:List Value,(∀w2,w2.heap=w.heap→(Builtin.firstCells size sLen (.slice base sLen sCap)).run P w2= .ok iw.toArray w2)→
    ∃eM,sLen+n≤eM∧(Builtin.append_ #[wv,qZ] ty #[.slice base sLen sCap,x']).run P w=
     .ok (.slice (some ⟨w.heap.size,0,none⟩) (sLen+n) eM) (w.drew.alloc (.cells (iw.toArray++(gi.toArray++Builtin.zeroCells z.cells (eM-(sLen+n)))) elem))):=by
 obtain⟨FH,pK,m,hm,BL⟩:=dV hz w;rw[hs] at hm;cases hm;have UA: ¬sLen+n≤sCap→sLen+n≤4294967296→bytes≤4096→¬281474976710656<Builtin.nextslicecap (sLen+n) sCap*i.bytes:=by
  intro h1 h2 h3;have h4:=FZ (need:=sLen+n) (c:=sCap) (by omega)
  have h5:Builtin.nextslicecap (sLen+n) sCap*i.bytes≤(2*(sLen+n)+192)*4096:=Nat.mul_le_mul h4 (by omega)
  omega
 unfold Ke at h;split at h
 ·rename_i k l hxu;split at h
  ·rename_i hc;obtain⟨h0,h1,hby⟩:=hc;cases h;obtain rfl:=hx.int;have hw:IntKind.i64.wrap l=l:=by rw[IntKind.wrap_i64];omega
   have hl0: ¬l<0:=by omega
   have Km: ¬281474976710656<l*(i.bytes:Int):=by
    have h2:(i.bytes:Int)≤4096:=by omega
    have:l*(i.bytes:Int)≤l*4096:=Int.mul_le_mul_of_nonneg_left h2 h0;omega
   have Uz:l.toNat*size=0→bK z.cells.toList l.toNat=[]:=λhe=>List.eq_nil_of_length_eq_zero (by rw[fv];simp[BL,he])
   have ZI: ¬l.toNat*size=0→Builtin.zeroCells z.cells l.toNat=(bK z.cells.toList l.toNat).toArray:=by
    intro he;have dC:z.cells.size≠0:=by rw[BL];intro e;rw[e] at he;simp at he
    rw[←my _ _ dC]
   refine⟨by rw[fv];simp[BL],mM pK _,_,kR pK _,?_,?_⟩
   ·intro jn;simp[Builtin.append_,run_underlying hu,run_underlying hxu,eC hs,jn,kZ hi,asInt,asIntOf,hw,hl0,Km];by_cases he:l.toNat*size=0
    ·rw[if_pos he,Uz he];cases base<;>simp
    ·rw[if_neg he];simp only[(dV hz _).1,Result.andThen_ok,ZI he];cases base<;>simp
   ·intro jn wK wJ iw hold;refine⟨(Question.appendCap (sLen+l.toNat) sCap elem).cut (w.tape w.drawn (Question.appendCap (sLen+l.toNat) sCap elem)),?_,?_⟩
    ·simp[Question.cut]
    ·simp[Builtin.append_,run_underlying hu,run_underlying hxu,eC hs,jn,kZ hi,asInt,asIntOf,hw,hl0,Km,(dV hz _).1,Question.forced];rw[if_neg (by omega),if_neg (UA jn wK wJ)]
     simp[hold w.drew rfl];by_cases he:l.toNat*size=0
     ·rw[if_pos he,Uz he];simp[newRow]
      try rfl
     ·rw[if_neg he,ZI he];simp[newRow]
      try rfl
  ·cases h
 ·rename_i e2 a c hxu;rw[Option.map_eq_some_iff] at h;obtain⟨cs,rp,e⟩:=h;cases e;obtain⟨hle,a',c',rfl,_,_⟩:=hx.fi;obtain⟨hlen,wM,fj,hv,dJ⟩:=oE (P:=P) hS hx (Nat.le_refl _) rp;refine⟨hlen,wM,fj,hv,?_,?_⟩
  ·intro jn;simp[Builtin.append_,run_underlying hu,run_underlying hxu,eC hs,Builtin.lenOf,jn,dJ w rfl];cases base<;>simp
  ·intro jn wK wJ iw hold;refine⟨(Question.appendCap (sLen+n) sCap elem).cut (w.tape w.drawn (Question.appendCap (sLen+n) sCap elem)),?_,?_⟩
   ·simp[Question.cut]
   ·simp[Builtin.append_,run_underlying hu,run_underlying hxu,eC hs,Builtin.lenOf,jn,kZ hi,(dV hz _).1,Question.forced];rw[if_neg (by omega),if_neg (UA jn wK wJ)]
    simp[hold w.drew rfl,dJ w.drew rfl];rfl
 ·cases h
theorem uV {z v:Value}(hz:fR z=true){m k:Nat}(h:(Builtin.zeroCells z.cells m)[k]? =some v):cw v=true:=by
 have aab:=Array.mem_of_getElem? h;have hz': ∀x∈z.cells.toList,cw x=true:=by
  intro x hx;cases z with
  |agg cs=>
   simp only[fR,List.all_eq_true] at hz;exact hz x (by simpa[Value.cells] using hx)
  |_=>simp only[Value.cells,List.mem_singleton] at hx;subst hx;exact hz
 unfold Builtin.zeroCells at aab;obtain⟨i,hi,rfl⟩:=Array.mem_map.1 aab;have qT:=Array.mem_range.1 hi;have F1:0<z.cells.size:=by
  rcases Nat.eq_zero_or_pos z.cells.size with h0|h0
  ·rw[h0] at qT;simp at qT
  ·exact h0
 have gH:i%z.cells.size<z.cells.size:=Nat.mod_lt _ F1;rw[getElem!_pos z.cells _ gH];exact hz' _ (by simp)
theorem wN {old new iw gi:List Value}{z:Value}{size sLen n eM:Nat}{elem:TypeId}(hS:cQ P μ H w B)(ho:cY μ old iw)(hn:cY μ new gi)(h1:old.all aD=true)(h2:new.all aD=true)(wB:old.length=sLen*size)(hnl:new.length=n*size)(hz:z.cells.size=size)(hzp:fR z=true)(hs0:size≠0)(zY:sLen+n≤eM):
  Told P μ (.slice (some ⟨H.length,0,none⟩) (sLen+n) (sLen+n)) (H.new ⟨old++new,elem,size,false⟩) w B
   (.ok (.slice (some ⟨w.heap.size,0,none⟩) (sLen+n) eM) (w.drew.alloc (.cells (iw.toArray++(gi.toArray++Builtin.zeroCells z.cells (eM-(sLen+n)))) elem))):=by
 have hzl:(Builtin.zeroCells z.cells (eM-(sLen+n))).size=(eM-(sLen+n))*size:=by
  have:=congrArg List.length (my z.cells (eM-(sLen+n)) (by omega))
  rw[fv] at this;simp at this;rw[this,hz]
 have uU:(iw.toArray++(gi.toArray++Builtin.zeroCells z.cells (eM-(sLen+n)))).size=eM*size:=by
  have h1:=ho.1;have h2:=hn.1;have h3:(sLen+n)*size=sLen*size+n*size:=Nat.add_mul _ _ _;have h4:eM*size=(sLen+n)*size+(eM-(sLen+n))*size:=by rw[←Nat.add_mul];congr 1;omega
  simp[hzl];omega
 have hSd:cQ P μ H w.drew B:=hS.heap rfl;obtain⟨g1,g2⟩:=hSd.alloc (old++new) elem elem size (iw.toArray++(gi.toArray++Builtin.zeroCells z.cells (eM-(sLen+n)))) (eM*size) uU.symm (by rw[List.all_append,h1,h2];rfl)
  (by have h1:=ho.1;have h2:=hn.1;simp;omega)
  (by
   have e:(iw.toArray++(gi.toArray++Builtin.zeroCells z.cells (eM-(sLen+n)))).toList=(iw++gi)++(Builtin.zeroCells z.cells (eM-(sLen+n))).toList:=by simp
   rw[e,List.take_append_of_le_length (by have h1:=ho.1;have h2:=hn.1;simp;omega),List.take_of_length_le (by have h1:=ho.1;have h2:=hn.1;simp;omega)]
   exact ho.append hn)
  (by
   intro k v hk DA;have h1:=ho.1;have h2:=hn.1;rw[Array.getElem?_append_right (by simp at hk ⊢;omega),Array.getElem?_append_right (by simp at hk ⊢;omega)] at DA
   exact uV hzp DA)
 refine⟨_,_,_,rfl,g1,?_,g2,((eX.refl _ _).drew).alloc hSd.base _⟩;have:=VR.slice (μ:=μ.up H.length ⟨w.drew.heap.size,0,eM*size,size⟩) H.length 0 (sLen+n) (sLen+n) eM _ Mu.aP (Nat.le_refl _) zY (by simp)
 simpa using this
theorem zZ {argTypes:Array TypeId}{ty:TypeId}{s s' x x' v:Value}(hS:cQ P μ H w B)(hs:VR μ s s')(hx:VR μ x x')(h:pe P argTypes s x H=some (v,H')):
  Told P μ v H' w B ((Builtin.append_ argTypes ty #[s',x']).run P w):=by
 unfold pe at h;split at h
 ·rename_i wv qZ hs0 hx0;have oF:(Builtin.append_ argTypes ty #[s',x'])=(Builtin.append_ #[wv,qZ] ty #[s',x']):=by
   unfold Builtin.append_;simp only[hs0,hx0];rfl
  rw[oF];split at h
  ·rename_i elem base sLen sCap hu;split at h
   ·rename_i size bytes z uU hbt hz;obtain⟨i,hi,hib⟩:=qy hbt;obtain⟨_,pK,m,hm,BL⟩:=dV hz w;rw[uU] at hm;cases hm;split at h
    ·rename_i n new hg;obtain⟨aac,wO,wP,rfl,FX,hcc⟩:=hs.fi;obtain⟨hlen,wM,gi,F2,jn,NS⟩:=F0 (ty:=ty) (sLen:=sLen) (sCap:=wP) hS hx hu uU hi hib hz hg wO;have DX:gi.length=n*size:=by rw[←F2.1];exact hlen
     simp only at h;split at h
     ·
      rename_i hle;rw[jn (by omega)]
      cases base with
      |none=>
       obtain⟨rfl,rfl,e⟩:=hs.ig;cases e;simp only at h;cases h;have HR:n=0:=by omega
       subst HR;exact Told.same hS hs
      |some ad=>
       obtain⟨i',off,spot⟩:=ad;cases spot with
       |some _=>cases h
       |none=>
        simp only at h;split at h
        ·rename_i HR;cases h;subst HR;have:gi=[]:=List.eq_nil_of_length_eq_zero (by rw[DX];simp)
         subst this;rcases hs.eK with⟨i2,nU,BN,l,e,hl,g1,g2,g3,e2⟩|⟨i2,nU,a2,e,rfl,rfl,e2⟩
         ·cases e2;simp only[storeCells,Sem.run_pure,Result.andThen_ok];exact Told.same hS hs
         ·cases e2;simp only[storeCells,Sem.run_pure,Result.andThen_ok];exact Told.same hS hs
        ·rename_i HR;cases hb:H.get i' with
         |none=>rw[hb] at h;cases h
         |some b=>
          rw[hb] at h;simp only at h;split at h
          ·rename_i hes;rw[Option.map_eq_some_iff] at h;obtain⟨H2,kY,e⟩:=h;cases e;rcases hs.eK with⟨i2,nU,BN,l,e,hl,g1,g2,g3,e2⟩|⟨i2,nU,a2,e,rfl,rfl,e2⟩
           ·cases e;cases e2;obtain⟨w',hr,tm,hB⟩:=hS.st hl kY F2;rw[←Nat.add_assoc, ←jl (l.b) (l.o+off) (sLen*size)] at hr;simp only[hr,Result.andThen_ok];exact⟨_,μ,w',rfl,μ.le_refl,.slice i' off (sLen+n) sCap wP l hl hle hcc g3,tm,hB⟩
           ·omega
          ·cases h
     ·rename_i hle;split at h
      ·rename_i qa;simp only[Bool.and_eq_true,decide_eq_true_eq,ne_eq] at qa;obtain⟨⟨wK,hby⟩,F4⟩:=qa;have F4:size≠0:=by simpa using F4
       cases base with
       |none=>
        obtain⟨rfl,rfl,e⟩:=hs.ig;cases e;simp only[if_true] at h;cases h;obtain⟨eM,zY,dJ⟩:=NS hle wK hby [] (λw2 _=>by simp[Builtin.firstCells])
        rw[dJ];have:=wN (elem:=elem) (old:=[]) (iw:=[]) (sLen:=0) hS .nil F2 rfl wM (by simp) hlen BL pK F4 zY
        simpa using this
       |some ad=>
        obtain⟨i',off,spot⟩:=ad;cases spot with
        |some _=>cases h
        |none=>
         simp only at h;cases hb:H.get i' with
         |none=>rw[hb] at h;cases h
         |some b=>
          rw[hb] at h;simp only at h;split at h
          ·rename_i dR;simp only[Bool.and_eq_true,Bool.not_eq_true',beq_iff_eq] at dR;obtain⟨⟨iQ,hes⟩,iX⟩:=dR;cases uW:aR H i' off (sLen*size) with
           |none=>rw[uW] at h;cases h
           |some old=>
            rw[uW] at h;simp only at h;cases h;rcases hs.eK with⟨i2,nU,BN,l,e,hl,g1,g2,g3,e2⟩|⟨i2,nU,a2,e,rfl,rfl,e2⟩
            ·cases e;cases e2;obtain⟨D3,iw,hold,AF⟩:=hS.aR hl uW;by_cases HS:sLen+n≤wP
             ·
              obtain⟨m,hm,k⟩:=hS.ok i' b hb;rw[hl] at hm;cases hm;obtain⟨cs,mV,fz,r1,r2,r3,r4,r5⟩:=k.row;obtain rfl:=r3 iQ;have VL:l.es=size:=k.es.trans hes;rw[VL] at g3;have hmul:(sLen+n)*size≤wP*size:=Nat.mul_le_mul_right _ HS;have aeb:(sLen+n)*size=sLen*size+n*size:=Nat.add_mul _ _ _;have zW: ∀v∈gi,v.oneCell'=true:=F2.DS wM;have rj:=run_storeCells_at (P:=P) l.b (l.o+off+sLen*size) mV gi 0 cs w r1 (by omega) zW
              rw[jn HS];simp only[jl,rj,Result.andThen_ok];have F5:cY μ (old++new) (((cs.toList.take (l.o+off+sLen*size+0)++gi++cs.toList.drop (l.o+off+sLen*size+0+gi.length)).toArray.toList.drop (l.o+off)).take (old++new).length):=by
               have rp:cs.toList.length=cs.size:=by simp
               have wB:iw.length=sLen*size:=by rw[←hold.1];exact D3
               have e:(((cs.toList.take (l.o+off+sLen*size+0)++gi++cs.toList.drop (l.o+off+sLen*size+0+gi.length)).toArray.toList.drop (l.o+off)).take (old++new).length)=iw++gi:=by
                apply List.ext_getElem?;intro j;simp only[Nat.add_zero,List.getElem?_take,List.getElem?_drop,List.getElem?_append,List.length_append,List.length_take,rp,D3,hlen];by_cases hj:j<iw.length
                ·rw[if_pos (by omega),if_pos (by omega),if_pos (by omega),if_pos (by omega),if_pos hj]
                 have:=AF j iw[j] (List.getElem?_eq_getElem hj)
                 rw[jl] at this;simp only[World.cell?,r1] at this;rw[List.getElem?_eq_getElem hj, ←this];simp
                ·rw[if_neg hj];by_cases fP:j<sLen*size+n*size
                 ·rw[if_pos fP,if_pos (by omega),if_neg (by omega)]
                  congr 1;omega
                 ·rw[if_neg fP,List.getElem?_eq_none (by omega)]
               rw[e];exact hold.append F2
              have VQ: ∀(Uw:Array Value) ty3 VJ,(w.setRow l.b (cs.toList.take (l.o+off+sLen*size+0)++gi++cs.toList.drop (l.o+off+sLen*size+0+gi.length)).toArray).heap[l.b]? =some (.cells Uw ty3 VJ)→∀(k:Nat) (v:Value),l.o+off+(old++new).length≤k→Uw[k]? =some v→cw v=true:=by
               intro Uw ty3 VJ g2 j v hj DA;rw[setRow_heap w l.b cs _ mV (0,0) r1] at g2;cases g2;have rp:cs.toList.length=cs.size:=by simp
               simp only[List.length_append,D3,hlen] at hj;refine(hS.ok i' b hb).elim λl0 hl0=>?_
               obtain⟨e0,k0⟩:=hl0;rw[hl] at e0;cases e0;have q3:(sLen+n)*size=sLen*size+n*size:=Nat.add_mul _ _ _;have q4:sCap*size≤(sLen+n)*size:=Nat.mul_le_mul_right _ (by omega)
               refine k0.spare iQ cs mV (0,0) r1 j v (by omega) ?_
               rw[←DA];simp only[Nat.add_zero,List.getElem?_toArray,List.getElem?_append,List.length_append,List.length_take,rp,List.getElem?_drop];rw[if_neg (by omega), ←Array.getElem?_toList]
               congr 1;omega
              obtain⟨q1,q2⟩:=hS.move (b':=⟨old++new,elem,size,false⟩) (l':=⟨l.b,l.o+off,l.sz,size⟩) hb iQ hl rfl (λk hk=>setRow_other w l.b k _ hk) (setRow_size _ _ _)
               ⟨rfl,by show(old++new).all aD=true;rw[List.all_append,hS.NN uW,wM];rfl,λ_=>VQ,_,mV,(0,0),setRow_heap w l.b cs _ mV (0,0) r1,by simp;omega,λ_=>rfl,by simp;omega,F5⟩
              refine⟨_,_,_,rfl,q1,?_,q2,rl (hS.own i' b l hb iQ hl) (λo ho=>by rw[r1] at ho;cases ho;rfl)⟩
              have:=VR.slice (μ:=μ.up H.length ⟨l.b,l.o+off,l.sz,size⟩) H.length 0 (sLen+n) (sLen+n) wP _ Mu.aP (Nat.le_refl _) HS (by simpa using g3)
              simpa using this
             ·obtain⟨eM,zY,dJ⟩:=NS HS wK hby iw (λw2 he=>by
               have hr:=run_loadCells_list (P:=P) w2 ⟨l.b,l.o+off,none⟩ iw (λj v hj=>by rw[←AF j v hj];simp[World.cell?,he])
               rw[←hold.1,D3] at hr;exact hr)
              rw[dJ];have:=wN (elem:=elem) (hS.kill (i:=i')) hold F2 (hS.NN uW) wM D3 hlen BL pK F4 zY
              rw[aa.fW] at this;exact this
            ·cases e;cases e2;obtain⟨eM,zY,dJ⟩:=NS (by omega) wK hby [] (λw2 he=>by simp[Builtin.firstCells,loadCells,loadCellsFrom])
             rw[dJ];have aad:old=[]:=List.eq_nil_of_length_eq_zero (by
              unfold aR at uW;rw[hb] at uW;simp only at uW;split at uW
              ·cases uW;simp
              ·cases uW)
             subst aad;have:=wN (elem:=elem) (old:=[]) (iw:=[]) (sLen:=0) (hS.kill (i:=i')) .nil F2 rfl wM (by simp) hlen BL pK F4 zY
             rw[aa.fW] at this;exact this
          ·cases h
      ·cases h
    ·cases h
   ·cases h
  ·cases h
 ·cases h
variable {P:Program} {μ:Mu} {H H':aa} {w w1:World} {B:Nat}
theorem mJ.ne {b:eW}{l:Loc}(h:mJ μ w b l){k:Nat}{x:Obj}(hk:w.heap[k]? =some x)(hx:x.isCells=false):l.b≠k:=by
 rintro rfl;obtain⟨cs,ty,fz,h1,_⟩:=h.row;rw[h1] at hk;cases hk;cases hx
theorem cQ.kt (h:cQ P μ H w B)(hw: ∀k,k<w.heap.size→w1.heap[k]? =w.heap[k]?)(hs:w.heap.size≤w1.heap.size){l:Nat}(hl:w.heap.size≤l){o:dF}(ho:mK P μ w1 o l):
  μ.le (μ.up H.length ⟨l,0,0,0⟩)∧cQ P (μ.up H.length ⟨l,0,0,0⟩) (H.kt o) w1 B:=by
 have hle:=Mu.DR (l:=⟨l,0,0,0⟩) (h.BI H.length (Nat.le_refl _));have back: ∀{i:Nat} {m:Loc},i<H.length→(μ.up H.length ⟨l,0,0,0⟩) i=some m→μ i=some m:=by
  intro i m hi hm
  rwa [Mu.dP (by omega)] at hm
 refine⟨hle,Nat.le_trans h.base hs,?_,?_,?_,?_,?_,λk hk=>by obtain⟨h1,h2⟩:=aa.Kg hk;rw[Mu.dP (by omega)];exact h.wB k h1⟩
 ·intro i b hb;have hb:=aa.rb hb;obtain⟨m,h1,h2⟩:=h.ok i b hb;exact⟨m,hle _ _ h1,(h2.mono hle).heap (hw _ h2.lt)⟩
 ·intro i hi;rw[aa.oC] at hi;rw[Mu.dP (by omega)];exact h.BI i (by omega)
 ·intro i j b c m n hb hc hm hn Nu iQ;have hb:=aa.rb hb;have hc:=aa.rb hc;exact h.inj i j b c m n hb hc (back (aa.ar hb) hm) (back (aa.ar hc) hn) Nu iQ
 ·intro i b m hb iQ hm;have hb:=aa.rb hb;exact h.own i b m hb iQ (back (aa.ar hb) hm)
 ·refine⟨?_,?_⟩
  ·intro i p hp;rcases aa.wD hp with⟨rfl,rfl⟩|⟨hi,hp⟩
   ·exact⟨_,Mu.aP,Nat.le_trans h.base hl,ho.mono hle⟩
   ·obtain⟨m,h1,h2,h3⟩:=h.ef.ok i p hp;exact⟨m,hle _ _ h1,h2,(h3.mono hle).heap (hw _ h3.lt)⟩
  ·intro i j p q m n hp hq hm hn Nu;rcases aa.wD hp with⟨rfl,rfl⟩|⟨hi,F6⟩<;>rcases aa.wD hq with⟨rfl,rfl⟩|⟨hj,qA⟩
   ·exact absurd rfl Nu
   ·rw[Mu.aP] at hm;cases hm;obtain⟨n',e,_,k⟩:=h.ef.ok j q qA;have e2:=back hj hn;rw[e] at e2;cases e2;have:=k.lt;show l≠n.b;omega
   ·rw[Mu.aP] at hn;cases hn;obtain⟨m',e,_,k⟩:=h.ef.ok i p F6;have e2:=back hi hm;rw[e] at e2;cases e2;have:=k.lt;show m.b≠l;omega
   ·exact h.ef.inj i j p q m n F6 qA (back hi hm) (back hj hn) Nu
theorem cQ.jK (h:cQ P μ H w B){i:Nat}{o o':dF}{l:Loc}{x:Obj}(hi:H.ef i=some o)(hl:μ i=some l)(ho:mK P μ (w.putObj l.b x) o' l.b):cQ P μ (H.jK i o') (w.putObj l.b x) B:=by
 obtain⟨l',e,hB,dR⟩:=h.ef.ok i o hi;rw[hl] at e;cases e;obtain⟨y,hy,hyc⟩:=dR.at;have hw: ∀k,k≠l.b→(w.putObj l.b x).heap[k]? =w.heap[k]? :=λk hk=>World.putObj_heap_other hk
 refine⟨by simpa using h.base,?_,λk hk=>h.BI k (by rw[aa.DT] at hk;exact hk),?_,?_,⟨?_,?_⟩,λk hk=>h.wB k (aa.Kh hk).1⟩
 ·intro j b hb;rw[aa.wE hi] at hb;obtain⟨m,h1,h2⟩:=h.ok j b hb;exact⟨m,h1,h2.heap (hw _ (h2.ne hy hyc))⟩
 ·intro j k b c m n hb hc;rw[aa.wE hi] at hb hc;exact h.inj j k b c m n hb hc
 ·intro j b m hb;rw[aa.wE hi] at hb;exact h.own j b m hb
 ·intro j p hp;by_cases e:j=i
  ·subst e;rw[aa.p8 (aa.wC hi)] at hp;cases hp;exact⟨l,hl,hB,ho⟩
  ·rw[aa.uq e] at hp;obtain⟨m,h1,h2,h3⟩:=h.ef.ok j p hp;exact⟨m,h1,h2,h3.heap (hw _ (h.ef.inj j i p o m l hp hi h1 hl e))⟩
 ·intro j k p q m n hp hq hm hn AE;have old: ∀{j:Nat} {p:dF},(H.jK i o').ef j=some p→∃p',H.ef j=some p':=by
   intro j p hp;by_cases e:j=i
   ·subst e;exact⟨_,hi⟩
   ·rw[aa.uq e] at hp;exact⟨_,hp⟩
  obtain⟨p',hp⟩:=old hp;obtain⟨q',hq⟩:=old hq;exact h.ef.inj j k p' q' m n hp hq hm hn AE
theorem cQ.aae (h:cQ P μ H w B){i:Nat}{o:dF}{l:Loc}{x:Obj}(hi:H.ef i=some o)(hl:μ i=some l):cQ P μ (H.kill i) (w.putObj l.b x) B:=by
 obtain⟨l',e,hB,dR⟩:=h.ef.ok i o hi;rw[hl] at e;cases e;obtain⟨y,hy,hyc⟩:=dR.at;have hw: ∀k,k≠l.b→(w.putObj l.b x).heap[k]? =w.heap[k]? :=λk hk=>World.putObj_heap_other hk
 refine⟨by simpa using h.base,?_,λk hk=>h.BI k (by rw[aa.fW] at hk;exact hk),?_,?_,⟨?_,?_⟩,λk hk=>h.wB k (aa.td hk).1⟩
 ·intro j b hb;obtain⟨m,h1,h2⟩:=h.ok j b (aa.rh hb);exact⟨m,h1,h2.heap (hw _ (h2.ne hy hyc))⟩
 ·intro j k b c m n hb hc;exact h.inj j k b c m n (aa.rh hb) (aa.rh hc)
 ·intro j b m hb;exact h.own j b m (aa.rh hb)
 ·intro j p hp;have e:j≠i:=by rintro rfl;rw[aa.p9] at hp;cases hp
  have hp:=aa.oD hp;obtain⟨m,h1,h2,h3⟩:=h.ef.ok j p hp;exact⟨m,h1,h2,h3.heap (hw _ (h.ef.inj j i p o m l hp hi h1 hl e))⟩
 ·intro j k p q m n hp hq;exact h.ef.inj j k p q m n (aa.oD hp) (aa.oD hq)
theorem cQ.Rp (h:cQ P μ H w B){D:Nat}{x y:Obj}(hD:w.heap[D]? =some y)(h1:y.isCells=false)(h2: ∀r,y≠ .loop r)(h3: ∀es c,y≠ .map es c):cQ P μ H (w.putObj D x) B:=by
 have hw: ∀k,k≠D→(w.putObj D x).heap[k]? =w.heap[k]? :=λk hk=>World.putObj_heap_other hk
 refine⟨by simpa using h.base,?_,h.BI,h.inj,h.own,⟨?_,h.ef.inj⟩,h.wB⟩
 ·intro j b hb;obtain⟨m,h4,h5⟩:=h.ok j b hb;exact⟨m,h4,h5.heap (hw _ (h5.ne hD h1))⟩
 ·intro j p hp;obtain⟨m,h4,h5,h6⟩:=h.ef.ok j p hp;refine⟨m,h4,h5,h6.heap (hw _ ?_)⟩;rintro rfl;cases p with
  |loop L s=>obtain⟨r,N,g,_⟩:=h6;rw[hD] at g;cases g;exact h2 r rfl
  |FG k es=>obtain⟨ms,c,g,_⟩:=h6;rw[hD] at g;cases g;exact h3 _ _ rfl
theorem nf {D:Nat}{x y:Obj}(hD:w.heap[D]? =some y)(hB:B≤D):Below B w (w.putObj D x):=
 (Below.refl B w).grown (grownBy_putObj' w D x) (by have:=(Array.getElem?_eq_some_iff.1 hD).1;omega) (λk e=>by cases e;omega)
theorem eX.rC {l:Nat}{r r':Loop}(hl:w.heap[l]? =some (.loop r))(hB:B≤l)(hd:r'.defers=r.defers):eX B w (w.putObj l (.loop r')):=by
 have gH:=(Array.getElem?_eq_some_iff.1 hl).1;refine⟨nf hl hB,?_,?_,by simp⟩
 ·intro b r0 hb;by_cases e:b=l
  ·subst e;rw[hl] at hb;cases hb;exact⟨r',World.putObj_heap_same gH,hd⟩
  ·exact⟨r0,by rw[World.putObj_heap_other e];exact hb,rfl⟩
 ·intro b hb;have e:b≠l:=by rintro rfl;rw[hl] at hb;cases hb
  rw[World.putObj_heap_other e];exact hb
theorem eX.BO {l:Nat}{es es':Array MapEntry}{c c':Nat}(hl:w.heap[l]? =some (.map es c))(hB:B≤l):eX B w (w.putObj l (.map es' c')):=by
 refine⟨nf hl hB,?_,?_,by simp⟩
 ·intro b r0 hb;have e:b≠l:=by rintro rfl;rw[hl] at hb;cases hb
  exact⟨r0,by rw[World.putObj_heap_other e];exact hb,rfl⟩
 ·intro b hb;have e:b≠l:=by rintro rfl;rw[hl] at hb;cases hb
  rw[World.putObj_heap_other e];exact hb
theorem eX.VS {w0:World}{D:Nat}{x:Obj}(h:eX B w0 w)(hl:w.heap[D]? =some (.deferred (some [])))(hB:B≤D)(hD:w0.heap.size≤D):eX B w0 (w.putObj D x):=by
 refine⟨h.below.trans (nf hl hB),?_,?_,by simpa using h.size⟩
 ·intro b r0 hb;have:=(Array.getElem?_eq_some_iff.1 hb).1
  rw[World.putObj_heap_other (by omega)];exact h.loops b r0 hb
 ·intro b hb;have:=(Array.getElem?_eq_some_iff.1 hb).1
  rw[World.putObj_heap_other (by omega)];exact h.Z9 b hb
abbrev UB (D:Nat):Deferred:={target:=.collected D,args:=#[]}
def Marks (w w':World)(a a':Act):Prop:=
 ∃Ds:List Nat,a'.defers=Ds.map UB++a.defers∧Ds.Nodup∧∀D∈Ds,w.heap.size≤D∧w'.heap[D]? =some (.deferred (some []))
theorem Marks.of_eq {w w':World}{a a':Act}(h:a'.defers=a.defers):Marks w w' a a':=⟨[],by simpa using h,List.nodup_nil,λD hD=>by cases hD⟩
theorem Marks.trans {w w1 w':World}{a a1 a':Act}(h:Marks w w1 a a1)(hb:eX B w w1)(NT:eX B w1 w')(k:Marks w1 w' a1 a'):Marks w w' a a':=by
 obtain⟨Ds,h1,h2,h3⟩:=h;obtain⟨Es,k1,k2,k3⟩:=k;refine⟨Es++Ds,by rw[k1,h1];simp,?_,?_⟩
 ·rw[List.nodup_append];refine⟨k2,h2,λx hx y hy e=>?_⟩
  subst e;have:=(k3 x hx).1
  have:=(Array.getElem?_eq_some_iff.1 (h3 x hy).2).1
  omega
 ·intro D hD;rcases List.mem_append.1 hD with hD|hD
  ·exact⟨Nat.le_trans hb.size (k3 D hD).1,(k3 D hD).2⟩
  ·exact⟨(h3 D hD).1,NT.Z9 D (h3 D hD).2⟩
theorem F7 {ro:Option Nat}(iQ: ∀l₀,ro=some l₀→∃r,w.heap[l₀]? =some (.loop r))(h:cQ P μ H w B)(fn:FuncId)(a:Act)(ps:Array Tmp)(x y:Code):
  ∃(l:Nat) (mk:List Deferred) (w1:World) (r:Loop),(Instr.enterLoop fn a.tmps ps x y ro).run P w= .ok (l,mk) w1∧w1.heap[l]? =some (.loop r)∧r.params=ps∧r.assign=x∧r.body=y∧r.tmps=a.tmps∧r.state= .ready∧r.pending=none∧
   w.heap.size≤l∧eX B w w1∧(∀k,k<w.heap.size→w1.heap[k]? =w.heap[k]?)∧Marks w w1 a {a with defers:=mk++a.defers}:=by
 cases ro with
 |none=>
  refine⟨_,_,_,{state:=.ready,pending:=none,fn,tmps:=a.tmps,params:=ps,assign:=x,body:=y,defers:=w.heap.size},run_enterLoop_outer fn a.tmps ps x y,?_,rfl,rfl,rfl,rfl,rfl,rfl,by omega,?_,?_,?_⟩
  ·have:=World.alloc_heap_new (w.alloc (.deferred (some []))) (.loop {state:=.ready,pending:=none,fn,tmps:=a.tmps,params:=ps,assign:=x,body:=y,defers:=w.heap.size})
   rwa [World.size_alloc] at this
  ·exact((eX.refl B w).alloc h.base _).alloc (by have:=h.base;simp;omega) _
  ·intro k hk;rw[Below.heap_alloc _ _ _ (by simp;omega),Below.heap_alloc _ _ _ hk]
  ·refine⟨[w.heap.size],rfl,by simp,λD hD=>?_⟩
   simp only[List.mem_singleton] at hD;subst hD;refine⟨Nat.le_refl _,?_⟩;rw[Below.heap_alloc _ _ _ (by simp)];exact World.alloc_heap_new w _
 |some l₀=>
  obtain⟨r₀,hr⟩:=iQ l₀ rfl;refine⟨_,_,_,{state:=.ready,pending:=none,fn,tmps:=a.tmps,params:=ps,assign:=x,body:=y,defers:=r₀.defers},run_enterLoop_inner hr fn a.tmps ps x y,?_,rfl,rfl,rfl,rfl,rfl,rfl,Nat.le_refl _,(eX.refl B w).alloc h.base _,λk hk=>Below.heap_alloc _ _ _ hk,Marks.of_eq (by simp)⟩
  exact World.alloc_heap_new w _
end Go.Proofs.YtgfgglponbmgmaaGreatA.Am
end
