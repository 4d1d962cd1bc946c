/- Texts of the proof of linearCut_holds, put together by a small program of ours (names shortened, spaces taken out). No condition beyond the given statement. -/
import Derived.Test.YtjgmnoaalbbonaaGreatLCT2
import Derived.Test.YtjgmnoaalbbonaaGreatLCT1
import Derived.RangeFuncNested
set_option linter.unusedVariables false
set_option linter.unusedSimpArgs false
set_option linter.unnecessarySimpa false
noncomputable section
section
namespace Go.Proofs.YtjgmnoaalbbonaaGreatA.Am
open Go.RowKit (Below)
variable {P:Program} {μ:Mu} {H H':aa} {w:World} {B:Nat}
theorem cQ.kill {i:Nat}(h:cQ P μ H w B):cQ P μ (H.kill i) w B:=by
 have old: ∀{j:Nat} {c:eu},(H.kill i).get j=some c→H.get j=some c:=by
  intro j c hc;by_cases e:j=i
  ·subst e;rw[aa.mn] at hc;cases hc
  ·rw[aa.iq e] at hc;exact hc
 exact⟨h.base,λj c hc=>h.ok j c (old hc),λj hj=>h.z3 j (by rw[aa.gG] at hj;exact hj),
  λj k c d l m hc hd=>h.inj j k c d l m (old hc) (old hd),λj c l hc=>h.own j c l (old hc),h.cT.keep μ.le_refl (λ_ _=>aa.pf) (λ_ _ h _=>h),λk hk=>h.vH k (aa.tX hk).1⟩
theorem A9 (wM:Nat): ∀(r c:Nat),c≤wM→Builtin.growBy wM r c≤2*wM+192
 |0,c,h=>by simp only[Builtin.growBy];omega
 |r+1,c,h=>by
  simp only[Builtin.growBy];split
  ·omega
  ·by_cases hc:c+(c+768)/4≤wM
   ·exact A9 wM r _ hc
   ·cases r with
    |zero=>simp only[Builtin.growBy];omega
    |succ r=>simp only[Builtin.growBy];rw[if_pos (by omega)];omega
theorem FO {need c:Nat}(h:c<need):Builtin.nextslicecap need c≤2*need+192:=by
 unfold Builtin.nextslicecap;split
 ·omega
 ·split
  ·omega
  ·exact A9 need 4 c (by omega)
theorem ph {size n c:Nat}{a:Option Addr}{x':Value}{cs:List Value}(hS:cQ P μ H w B)(hx:VR μ (.slice a n c) x'){m:Nat}(hm:m≤n)(h:bq H size m (.slice a n c)=some cs):
  cs.length=m*size∧cs.all av=true∧∃c8,dB μ cs c8∧∀w2,w2.heap=w.heap→(Builtin.firstCells size m x').run P w2= .ok c8.toArray w2:=by
 unfold bq at h;split at h
 ·rename_i i off _ _ e;cases e;by_cases ZD:m=0
  ·subst ZD;rw[if_pos rfl] at h;cases h;rcases hx.dx with⟨i',MF,dG,l,e,hl,g1,g2,g3,rfl⟩|⟨i',MF,a',e,rfl,rfl,rfl⟩
   ·exact⟨by simp,by simp,[],.nil,λw2 _=>by simp[Builtin.firstCells,loadCells,loadCellsFrom]⟩
   ·exact⟨by simp,by simp,[],.nil,λw2 _=>by simp[Builtin.firstCells,loadCells,loadCellsFrom]⟩
  rw[if_neg ZD] at h;rcases hx.dx with⟨i',MF,dG,l,e,hl,g1,g2,g3,rfl⟩|⟨i',MF,a',e,rfl,rfl,rfl⟩
  ·cases e;obtain⟨hlen,c8,hv,hc⟩:=hS.aw hl h;refine⟨hlen,hS.AX h,c8,hv,λw2 he=>?_⟩
   have hr:=run_loadCells_list (P:=P) w2 ⟨l.b,l.o+off,none⟩ c8 (λj v hj=>by rw[←hc j v hj];simp[World.cell?,he])
   rw[←hv.1,hlen] at hr;exact hr
  ·omega
 ·rename_i e;cases e;obtain⟨rfl,rfl,rfl⟩:=hx.iC;have ZD:m=0:=by omega
  subst ZD;simp only[if_true] at h;cases h;exact⟨by simp,by simp,[],.nil,λw2 _=>by simp[Builtin.firstCells]⟩
 ·cases h
theorem wN {wB rS elem ty:TypeId}{size bytes n sLen sCap:Nat}{i:TypeInfo}{z x x':Value}{new:List Value}(hS:cQ P μ H w B)(hx:VR μ x x')(hu:P.underlying wB=some (.slice elem))(hs:il P elem=some size)(hi:P.info? elem=some i)(Tm:i.bytes=bytes)(hz:zeroOf P elem=some z)(h:DS P H rS size bytes z x=some (n,new))(base:Option Addr):
  new.length=n*size∧new.all av=true∧∃lr,dB μ new lr∧
   (sLen+n≤sCap→(Builtin.append_ #[wB,rS] ty #[.slice base sLen sCap,x']).run P w=
    ((match base with|some a=>storeCells (a.add (sLen*size)) lr|none=>pure ():Sem Unit).run P w).andThen λ_ w=>.ok (.slice base (sLen+n) sCap) w)∧
   (¬sLen+n≤sCap→sLen+n≤4294967296→bytes≤4096→∀lu:List Value,(∀w2,w2.heap=w.heap→(Builtin.firstCells size sLen (.slice base sLen sCap)).run P w2= .ok lu.toArray w2)→
    ∃eZ,sLen+n≤eZ∧(Builtin.append_ #[wB,rS] ty #[.slice base sLen sCap,x']).run P w=
     .ok (.slice (some ⟨w.heap.size,0,none⟩) (sLen+n) eZ) (w.drew.alloc (.cells (lu.toArray++(lr.toArray++Builtin.zeroCells z.cells (eZ-(sLen+n)))) elem))):=by
 obtain⟨FB,oS,m,hm,vL⟩:=dR hz w;rw[hs] at hm;cases hm;have To: ¬sLen+n≤sCap→sLen+n≤4294967296→bytes≤4096→¬281474976710656<Builtin.nextslicecap (sLen+n) sCap*i.bytes:=by
  intro h1 h2 h3;have h4:=FO (need:=sLen+n) (c:=sCap) (by omega)
  have h5:Builtin.nextslicecap (sLen+n) sCap*i.bytes≤(2*(sLen+n)+192)*4096:=Nat.mul_le_mul h4 (by omega)
  omega
 unfold DS at h;split at h
 ·rename_i k l ZE;split at h
  ·rename_i hc;obtain⟨h0,h1,Tp⟩:=hc;cases h;obtain rfl:=hx.int;have hw:IntKind.i64.wrap l=l:=by rw[IntKind.wrap_i64];omega
   have ZF: ¬l<0:=by omega
   have Jc: ¬281474976710656<l*(i.bytes:Int):=by
    have h2:(i.bytes:Int)≤4096:=by omega
    have:l*(i.bytes:Int)≤l*4096:=Int.mul_le_mul_of_nonneg_left h2 h0;omega
   have Mp:l.toNat*size=0→bR z.cells.toList l.toNat=[]:=λhe=>List.eq_nil_of_length_eq_zero (by rw[eY];simp[vL,he])
   have MJ: ¬l.toNat*size=0→Builtin.zeroCells z.cells l.toNat=(bR z.cells.toList l.toNat).toArray:=by
    intro he;have dX:z.cells.size≠0:=by rw[vL];intro e;rw[e] at he;simp at he
    rw[←mq _ _ dX]
   refine⟨by rw[eY];simp[vL],mQ oS _,_,kX oS _,?_,?_⟩
   ·intro ig;simp[Builtin.append_,run_underlying hu,run_underlying ZE,eh hs,ig,lf hi,asInt,asIntOf,hw,ZF,Jc];by_cases he:l.toNat*size=0
    ·rw[if_pos he,Mp he];cases base<;>simp
    ·rw[if_neg he];simp only[(dR hz _).1,Result.andThen_ok,MJ he];cases base<;>simp
   ·intro ig wL wJ lu hold;refine⟨(Question.appendCap (sLen+l.toNat) sCap elem).cut (w.tape w.drawn (Question.appendCap (sLen+l.toNat) sCap elem)),?_,?_⟩
    ·simp[Question.cut]
    ·simp[Builtin.append_,run_underlying hu,run_underlying ZE,eh hs,ig,lf hi,asInt,asIntOf,hw,ZF,Jc,(dR hz _).1,Question.forced];rw[if_neg (by omega),if_neg (To ig wL wJ)]
     simp[hold w.drew rfl];by_cases he:l.toNat*size=0
     ·rw[if_pos he,Mp he];simp[newRow]
      try rfl
     ·rw[if_neg he,MJ he];simp[newRow]
      try rfl
  ·cases h
 ·rename_i e2 a c ZE;rw[Option.map_eq_some_iff] at h;obtain⟨cs,lK,e⟩:=h;cases e;obtain⟨hle,a',c',rfl,_,_⟩:=hx.fG;obtain⟨hlen,sr,c8,hv,dU⟩:=ph (P:=P) hS hx (Nat.le_refl _) lK;refine⟨hlen,sr,c8,hv,?_,?_⟩
  ·intro ig;simp[Builtin.append_,run_underlying hu,run_underlying ZE,eh hs,Builtin.lenOf,ig,dU w rfl];cases base<;>simp
  ·intro ig wL wJ lu hold;refine⟨(Question.appendCap (sLen+n) sCap elem).cut (w.tape w.drawn (Question.appendCap (sLen+n) sCap elem)),?_,?_⟩
   ·simp[Question.cut]
   ·simp[Builtin.append_,run_underlying hu,run_underlying ZE,eh hs,Builtin.lenOf,ig,lf hi,(dR hz _).1,Question.forced];rw[if_neg (by omega),if_neg (To ig wL wJ)]
    simp[hold w.drew rfl,dU w.drew rfl];rfl
 ·cases h
theorem va {z v:Value}(hz:gn z=true){m k:Nat}(h:(Builtin.zeroCells z.cells m)[k]? =some v):bY v=true:=by
 have vb:=Array.mem_of_getElem? h;have FP: ∀x∈z.cells.toList,bY x=true:=by
  intro x hx;cases z with
  |agg cs=>
   simp only[gn,List.all_eq_true] at hz;exact hz x (by simpa[Value.cells] using hx)
  |_=>simp only[Value.cells,List.mem_singleton] at hx;subst hx;exact hz
 unfold Builtin.zeroCells at vb;obtain⟨i,hi,rfl⟩:=Array.mem_map.1 vb;have vK:=Array.mem_range.1 hi;have FQ:0<z.cells.size:=by
  rcases Nat.eq_zero_or_pos z.cells.size with h0|h0
  ·rw[h0] at vK;simp at vK
  ·exact h0
 have eR:i%z.cells.size<z.cells.size:=Nat.mod_lt _ FQ;rw[getElem!_pos z.cells _ eR];exact FP _ (by simp)
theorem su {old new lu lr:List Value}{z:Value}{size sLen n eZ:Nat}{elem:TypeId}(hS:cQ P μ H w B)(ho:dB μ old lu)(hn:dB μ new lr)(h1:old.all av=true)(h2:new.all av=true)(vH:old.length=sLen*size)(hnl:new.length=n*size)(hz:z.cells.size=size)(hzp:gn z=true)(P8:size≠0)(rp:sLen+n≤eZ):
  Told P μ (.slice (some ⟨H.length,0,none⟩) (sLen+n) (sLen+n)) (H.new ⟨old++new,elem,size,false⟩) w B
   (.ok (.slice (some ⟨w.heap.size,0,none⟩) (sLen+n) eZ) (w.drew.alloc (.cells (lu.toArray++(lr.toArray++Builtin.zeroCells z.cells (eZ-(sLen+n)))) elem))):=by
 have Y6:(Builtin.zeroCells z.cells (eZ-(sLen+n))).size=(eZ-(sLen+n))*size:=by
  have:=congrArg List.length (mq z.cells (eZ-(sLen+n)) (by omega))
  rw[eY] at this;simp at this;rw[this,hz]
 have nA:(lu.toArray++(lr.toArray++Builtin.zeroCells z.cells (eZ-(sLen+n)))).size=eZ*size:=by
  have h1:=ho.1;have h2:=hn.1;have h3:(sLen+n)*size=sLen*size+n*size:=Nat.add_mul _ _ _;have h4:eZ*size=(sLen+n)*size+(eZ-(sLen+n))*size:=by rw[←Nat.add_mul];congr 1;omega
  simp[Y6];omega
 have hSd:cQ P μ H w.drew B:=hS.heap rfl;obtain⟨g1,g2⟩:=hSd.alloc (old++new) elem elem size (lu.toArray++(lr.toArray++Builtin.zeroCells z.cells (eZ-(sLen+n)))) (eZ*size) nA.symm (by rw[List.all_append,h1,h2];rfl)
  (by have h1:=ho.1;have h2:=hn.1;simp;omega)
  (by
   have e:(lu.toArray++(lr.toArray++Builtin.zeroCells z.cells (eZ-(sLen+n)))).toList=(lu++lr)++(Builtin.zeroCells z.cells (eZ-(sLen+n))).toList:=by simp
   rw[e,List.take_append_of_le_length (by have h1:=ho.1;have h2:=hn.1;simp;omega),List.take_of_length_le (by have h1:=ho.1;have h2:=hn.1;simp;omega)]
   exact ho.append hn)
  (by
   intro k v hk u9;have h1:=ho.1;have h2:=hn.1;rw[Array.getElem?_append_right (by simp at hk ⊢;omega),Array.getElem?_append_right (by simp at hk ⊢;omega)] at u9
   exact va hzp u9)
 refine⟨_,_,_,rfl,g1,?_,g2,((fI.refl _ _).drew).alloc hSd.base _⟩;have:=VR.slice (μ:=μ.up H.length ⟨w.drew.heap.size,0,eZ*size,size⟩) H.length 0 (sLen+n) (sLen+n) eZ _ Mu.aH (Nat.le_refl _) rp (by simp)
 simpa using this
theorem z6 {argTypes:Array TypeId}{ty:TypeId}{s s' x x' v:Value}(hS:cQ P μ H w B)(hs:VR μ s s')(hx:VR μ x x')(h:pV P argTypes s x H=some (v,H')):
  Told P μ v H' w B ((Builtin.append_ argTypes ty #[s',x']).run P w):=by
 unfold pV at h;split at h
 ·rename_i wB rS P8 hx0;have pj:(Builtin.append_ argTypes ty #[s',x'])=(Builtin.append_ #[wB,rS] ty #[s',x']):=by
   unfold Builtin.append_;simp only[P8,hx0];rfl
  rw[pj];split at h
  ·rename_i elem base sLen sCap hu;split at h
   ·rename_i size bytes z nA hbt hz;obtain⟨i,hi,Tm⟩:=nz hbt;obtain⟨_,oS,m,hm,vL⟩:=dR hz w;rw[nA] at hm;cases hm;split at h
    ·rename_i n new hg;obtain⟨ZG,wO,wP,rfl,FM,Um⟩:=hs.fG;obtain⟨hlen,sr,lr,BR,ig,D5⟩:=wN (ty:=ty) (sLen:=sLen) (sCap:=wP) hS hx hu nA hi Tm hz hg wO;have wF:lr.length=n*size:=by rw[←BR.1];exact hlen
     simp only at h;split at h
     ·
      rename_i hle;rw[ig (by omega)]
      cases base with
      |none=>
       obtain⟨rfl,rfl,e⟩:=hs.iC;cases e;simp only at h;cases h;have Hw:n=0:=by omega
       subst Hw;exact Told.same hS hs
      |some ad=>
       obtain⟨i',off,spot⟩:=ad;cases spot with
       |some _=>cases h
       |none=>
        simp only at h;split at h
        ·rename_i Hw;cases h;subst Hw;have:lr=[]:=List.eq_nil_of_length_eq_zero (by rw[wF];simp)
         subst this;rcases hs.dx with⟨i2,po,BS,l,e,hl,g1,g2,g3,e2⟩|⟨i2,po,a2,e,rfl,rfl,e2⟩
         ·cases e2;simp only[storeCells,Sem.run_pure,Result.andThen_ok];exact Told.same hS hs
         ·cases e2;simp only[storeCells,Sem.run_pure,Result.andThen_ok];exact Told.same hS hs
        ·rename_i Hw;cases hb:H.get i' with
         |none=>rw[hb] at h;cases h
         |some b=>
          rw[hb] at h;simp only at h;split at h
          ·rename_i zT;rw[Option.map_eq_some_iff] at h;obtain⟨H2,kW,e⟩:=h;cases e;rcases hs.dx with⟨i2,po,BS,l,e,hl,g1,g2,g3,e2⟩|⟨i2,po,a2,e,rfl,rfl,e2⟩
           ·cases e;cases e2;obtain⟨w',hr,pg,hB⟩:=hS.st hl kW BR;rw[←Nat.add_assoc, ←ir (l.b) (l.o+off) (sLen*size)] at hr;simp only[hr,Result.andThen_ok];exact⟨_,μ,w',rfl,μ.le_refl,.slice i' off (sLen+n) sCap wP l hl hle Um g3,pg,hB⟩
           ·omega
          ·cases h
     ·rename_i hle;split at h
      ·rename_i ln;simp only[Bool.and_eq_true,decide_eq_true_eq,ne_eq] at ln;obtain⟨⟨wL,Tp⟩,FU⟩:=ln;have FU:size≠0:=by simpa using FU
       cases base with
       |none=>
        obtain⟨rfl,rfl,e⟩:=hs.iC;cases e;simp only[if_true] at h;cases h;obtain⟨eZ,rp,dU⟩:=D5 hle wL Tp [] (λw2 _=>by simp[Builtin.firstCells])
        rw[dU];have:=su (elem:=elem) (old:=[]) (lu:=[]) (sLen:=0) hS .nil BR rfl sr (by simp) hlen vL oS FU rp
        simpa using this
       |some ad=>
        obtain⟨i',off,spot⟩:=ad;cases spot with
        |some _=>cases h
        |none=>
         simp only at h;cases hb:H.get i' with
         |none=>rw[hb] at h;cases h
         |some b=>
          rw[hb] at h;simp only at h;split at h
          ·rename_i fP;simp only[Bool.and_eq_true,Bool.not_eq_true',beq_iff_eq] at fP;obtain⟨⟨fm,zT⟩,kN⟩:=fP;cases iX:aw H i' off (sLen*size) with
           |none=>rw[iX] at h;cases h
           |some old=>
            rw[iX] at h;simp only at h;cases h;rcases hs.dx with⟨i2,po,BS,l,e,hl,g1,g2,g3,e2⟩|⟨i2,po,a2,e,rfl,rfl,e2⟩
            ·cases e;cases e2;obtain⟨Ba,lu,hold,uQ⟩:=hS.aw hl iX;by_cases HA:sLen+n≤wP
             ·
              obtain⟨m,hm,k⟩:=hS.ok i' b hb;rw[hl] at hm;cases hm;obtain⟨cs,mo,fz,r1,r2,r3,r4,r5⟩:=k.row;obtain rfl:=r3 fm;have Uo:l.es=size:=k.es.trans zT;rw[Uo] at g3;have hmul:(sLen+n)*size≤wP*size:=Nat.mul_le_mul_right _ HA;have adL:(sLen+n)*size=sLen*size+n*size:=Nat.add_mul _ _ _;have jF: ∀v∈lr,v.oneCell'=true:=BR.DU sr;have kj:=run_storeCells_at (P:=P) l.b (l.o+off+sLen*size) mo lr 0 cs w r1 (by omega) jF
              rw[ig HA];simp only[ir,kj,Result.andThen_ok];have Ut:dB μ (old++new) (((cs.toList.take (l.o+off+sLen*size+0)++lr++cs.toList.drop (l.o+off+sLen*size+0+lr.length)).toArray.toList.drop (l.o+off)).take (old++new).length):=by
               have lK:cs.toList.length=cs.size:=by simp
               have vH:lu.length=sLen*size:=by rw[←hold.1];exact Ba
               have e:(((cs.toList.take (l.o+off+sLen*size+0)++lr++cs.toList.drop (l.o+off+sLen*size+0+lr.length)).toArray.toList.drop (l.o+off)).take (old++new).length)=lu++lr:=by
                apply List.ext_getElem?;intro j;simp only[Nat.add_zero,List.getElem?_take,List.getElem?_drop,List.getElem?_append,List.length_append,List.length_take,lK,Ba,hlen];by_cases hj:j<lu.length
                ·rw[if_pos (by omega),if_pos (by omega),if_pos (by omega),if_pos (by omega),if_pos hj]
                 have:=uQ j lu[j] (List.getElem?_eq_getElem hj)
                 rw[ir] at this;simp only[World.cell?,r1] at this;rw[List.getElem?_eq_getElem hj, ←this];simp
                ·rw[if_neg hj];by_cases jb:j<sLen*size+n*size
                 ·rw[if_pos jb,if_pos (by omega),if_neg (by omega)]
                  congr 1;omega
                 ·rw[if_neg jb,List.getElem?_eq_none (by omega)]
               rw[e];exact hold.append BR
              have Uu: ∀(Mm:Array Value) ZH Qo,(w.setRow l.b (cs.toList.take (l.o+off+sLen*size+0)++lr++cs.toList.drop (l.o+off+sLen*size+0+lr.length)).toArray).heap[l.b]? =some (.cells Mm ZH Qo)→∀(k:Nat) (v:Value),l.o+off+(old++new).length≤k→Mm[k]? =some v→bY v=true:=by
               intro Mm ZH Qo g2 j v hj u9;rw[setRow_heap w l.b cs _ mo (0,0) r1] at g2;cases g2;have lK:cs.toList.length=cs.size:=by simp
               simp only[List.length_append,Ba,hlen] at hj;refine(hS.ok i' b hb).elim λl0 ZF=>?_
               obtain⟨e0,k0⟩:=ZF;rw[hl] at e0;cases e0;have q3:(sLen+n)*size=sLen*size+n*size:=Nat.add_mul _ _ _;have q4:sCap*size≤(sLen+n)*size:=Nat.mul_le_mul_right _ (by omega)
               refine k0.spare fm cs mo (0,0) r1 j v (by omega) ?_
               rw[←u9];simp only[Nat.add_zero,List.getElem?_toArray,List.getElem?_append,List.length_append,List.length_take,lK,List.getElem?_drop];rw[if_neg (by omega), ←Array.getElem?_toList]
               congr 1;omega
              obtain⟨q1,q2⟩:=hS.move (b':=⟨old++new,elem,size,false⟩) (l':=⟨l.b,l.o+off,l.sz,size⟩) hb fm hl rfl (λk hk=>setRow_other w l.b k _ hk) (setRow_size _ _ _)
               ⟨rfl,by show(old++new).all av=true;rw[List.all_append,hS.AX iX,sr];rfl,λ_=>Uu,_,mo,(0,0),setRow_heap w l.b cs _ mo (0,0) r1,by simp;omega,λ_=>rfl,by simp;omega,Ut⟩
              refine⟨_,_,_,rfl,q1,?_,q2,sf (hS.own i' b l hb fm hl) (λo ho=>by rw[r1] at ho;cases ho;rfl)⟩
              have:=VR.slice (μ:=μ.up H.length ⟨l.b,l.o+off,l.sz,size⟩) H.length 0 (sLen+n) (sLen+n) wP _ Mu.aH (Nat.le_refl _) HA (by simpa using g3)
              simpa using this
             ·obtain⟨eZ,rp,dU⟩:=D5 HA wL Tp lu (λw2 he=>by
               have hr:=run_loadCells_list (P:=P) w2 ⟨l.b,l.o+off,none⟩ lu (λj v hj=>by rw[←uQ j v hj];simp[World.cell?,he])
               rw[←hold.1,Ba] at hr;exact hr)
              rw[dU];have:=su (elem:=elem) (hS.kill (i:=i')) hold BR (hS.AX iX) sr Ba hlen vL oS FU rp
              rw[aa.gG] at this;exact this
            ·cases e;cases e2;obtain⟨eZ,rp,dU⟩:=D5 (by omega) wL Tp [] (λw2 he=>by simp[Builtin.firstCells,loadCells,loadCellsFrom])
             rw[dU];have ZI:old=[]:=List.eq_nil_of_length_eq_zero (by
              unfold aw at iX;rw[hb] at iX;simp only at iX;split at iX
              ·cases iX;simp
              ·cases iX)
             subst ZI;have:=su (elem:=elem) (old:=[]) (lu:=[]) (sLen:=0) (hS.kill (i:=i')) .nil BR rfl sr (by simp) hlen vL oS FU rp
             rw[aa.gG] at this;exact this
          ·cases h
      ·cases h
    ·cases h
   ·cases h
  ·cases h
 ·cases h
variable {P:Program} {μ:Mu} {H H':aa} {w w1:World} {B:Nat}
theorem mL.ne {b:eu}{l:Loc}(h:mL μ w b l){k:Nat}{x:Obj}(hk:w.heap[k]? =some x)(hx:x.isCells=false):l.b≠k:=by
 rintro rfl;obtain⟨cs,ty,fz,h1,_⟩:=h.row;rw[h1] at hk;cases hk;cases hx
theorem cQ.gj (h:cQ P μ H w B)(hw: ∀k,k<w.heap.size→w1.heap[k]? =w.heap[k]?)(hs:w.heap.size≤w1.heap.size){l:Nat}(hl:w.heap.size≤l){o:dg}(ho:mM P μ w1 o l):
  μ.le (μ.up H.length ⟨l,0,0,0⟩)∧cQ P (μ.up H.length ⟨l,0,0,0⟩) (H.gj o) w1 B:=by
 have hle:=Mu.AV (l:=⟨l,0,0,0⟩) (h.z3 H.length (Nat.le_refl _));have back: ∀{i:Nat} {m:Loc},i<H.length→(μ.up H.length ⟨l,0,0,0⟩) i=some m→μ i=some m:=by
  intro i m hi hm
  rwa [Mu.cZ (by omega)] at hm
 refine⟨hle,Nat.le_trans h.base hs,?_,?_,?_,?_,?_,λk hk=>by obtain⟨h1,h2⟩:=aa.I6 hk;rw[Mu.cZ (by omega)];exact h.vH k h1⟩
 ·intro i b hb;have hb:=aa.rX hb;obtain⟨m,h1,h2⟩:=h.ok i b hb;exact⟨m,hle _ _ h1,(h2.mono hle).heap (hw _ h2.lt)⟩
 ·intro i hi;rw[aa.pe] at hi;rw[Mu.cZ (by omega)];exact h.z3 i (by omega)
 ·intro i j b c m n hb hc hm hn DN fm;have hb:=aa.rX hb;have hc:=aa.rX hc;exact h.inj i j b c m n hb hc (back (aa.an hb) hm) (back (aa.an hc) hn) DN fm
 ·intro i b m hb fm hm;have hb:=aa.rX hb;exact h.own i b m hb fm (back (aa.an hb) hm)
 ·refine⟨?_,?_⟩
  ·intro i p hp;rcases aa.mN hp with⟨rfl,rfl⟩|⟨hi,hp⟩
   ·exact⟨_,Mu.aH,Nat.le_trans h.base hl,ho.mono hle⟩
   ·obtain⟨m,h1,h2,h3⟩:=h.cT.ok i p hp;exact⟨m,hle _ _ h1,h2,(h3.mono hle).heap (hw _ h3.lt)⟩
  ·intro i j p q m n hp hq hm hn DN;rcases aa.mN hp with⟨rfl,rfl⟩|⟨hi,Mq⟩<;>rcases aa.mN hq with⟨rfl,rfl⟩|⟨hj,HB⟩
   ·exact absurd rfl DN
   ·rw[Mu.aH] at hm;cases hm;obtain⟨n',e,_,k⟩:=h.cT.ok j q HB;have e2:=back hj hn;rw[e] at e2;cases e2;have:=k.lt;show l≠n.b;omega
   ·rw[Mu.aH] at hn;cases hn;obtain⟨m',e,_,k⟩:=h.cT.ok i p Mq;have e2:=back hi hm;rw[e] at e2;cases e2;have:=k.lt;show m.b≠l;omega
   ·exact h.cT.inj i j p q m n Mq HB (back hi hm) (back hj hn) DN
theorem cQ.eQ (h:cQ P μ H w B){i:Nat}{o o':dg}{l:Loc}{x:Obj}(hi:H.cT i=some o)(hl:μ i=some l)(ho:mM P μ (w.putObj l.b x) o' l.b):cQ P μ (H.eQ i o') (w.putObj l.b x) B:=by
 obtain⟨l',e,hB,fP⟩:=h.cT.ok i o hi;rw[hl] at e;cases e;obtain⟨y,hy,hyc⟩:=fP.at;have hw: ∀k,k≠l.b→(w.putObj l.b x).heap[k]? =w.heap[k]? :=λk hk=>World.putObj_heap_other hk
 refine⟨by simpa using h.base,?_,λk hk=>h.z3 k (by rw[aa.DW] at hk;exact hk),?_,?_,⟨?_,?_⟩,λk hk=>h.vH k (aa.I7 hk).1⟩
 ·intro j b hb;rw[aa.mO hi] at hb;obtain⟨m,h1,h2⟩:=h.ok j b hb;exact⟨m,h1,h2.heap (hw _ (h2.ne hy hyc))⟩
 ·intro j k b c m n hb hc;rw[aa.mO hi] at hb hc;exact h.inj j k b c m n hb hc
 ·intro j b m hb;rw[aa.mO hi] at hb;exact h.own j b m hb
 ·intro j p hp;by_cases e:j=i
  ·subst e;rw[aa.qP (aa.eF hi)] at hp;cases hp;exact⟨l,hl,hB,ho⟩
  ·rw[aa.uO e] at hp;obtain⟨m,h1,h2,h3⟩:=h.cT.ok j p hp;exact⟨m,h1,h2,h3.heap (hw _ (h.cT.inj j i p o m l hp hi h1 hl e))⟩
 ·intro j k p q m n hp hq hm hn BN;have old: ∀{j:Nat} {p:dg},(H.eQ i o').cT j=some p→∃p',H.cT j=some p':=by
   intro j p hp;by_cases e:j=i
   ·subst e;exact⟨_,hi⟩
   ·rw[aa.uO e] at hp;exact⟨_,hp⟩
  obtain⟨p',hp⟩:=old hp;obtain⟨q',hq⟩:=old hq;exact h.cT.inj j k p' q' m n hp hq hm hn BN
theorem cQ.ZJ (h:cQ P μ H w B){i:Nat}{o:dg}{l:Loc}{x:Obj}(hi:H.cT i=some o)(hl:μ i=some l):cQ P μ (H.kill i) (w.putObj l.b x) B:=by
 obtain⟨l',e,hB,fP⟩:=h.cT.ok i o hi;rw[hl] at e;cases e;obtain⟨y,hy,hyc⟩:=fP.at;have hw: ∀k,k≠l.b→(w.putObj l.b x).heap[k]? =w.heap[k]? :=λk hk=>World.putObj_heap_other hk
 refine⟨by simpa using h.base,?_,λk hk=>h.z3 k (by rw[aa.gG] at hk;exact hk),?_,?_,⟨?_,?_⟩,λk hk=>h.vH k (aa.tX hk).1⟩
 ·intro j b hb;obtain⟨m,h1,h2⟩:=h.ok j b (aa.rY hb);exact⟨m,h1,h2.heap (hw _ (h2.ne hy hyc))⟩
 ·intro j k b c m n hb hc;exact h.inj j k b c m n (aa.rY hb) (aa.rY hc)
 ·intro j b m hb;exact h.own j b m (aa.rY hb)
 ·intro j p hp;have e:j≠i:=by rintro rfl;rw[aa.qQ] at hp;cases hp
  have hp:=aa.pf hp;obtain⟨m,h1,h2,h3⟩:=h.cT.ok j p hp;exact⟨m,h1,h2,h3.heap (hw _ (h.cT.inj j i p o m l hp hi h1 hl e))⟩
 ·intro j k p q m n hp hq;exact h.cT.inj j k p q m n (aa.pf hp) (aa.pf hq)
theorem cQ.Qp (h:cQ P μ H w B){D:Nat}{x y:Obj}(hD:w.heap[D]? =some y)(h1:y.isCells=false)(h2: ∀r,y≠ .loop r)(h3: ∀es c,y≠ .map es c):cQ P μ H (w.putObj D x) B:=by
 have hw: ∀k,k≠D→(w.putObj D x).heap[k]? =w.heap[k]? :=λk hk=>World.putObj_heap_other hk
 refine⟨by simpa using h.base,?_,h.z3,h.inj,h.own,⟨?_,h.cT.inj⟩,h.vH⟩
 ·intro j b hb;obtain⟨m,h4,h5⟩:=h.ok j b hb;exact⟨m,h4,h5.heap (hw _ (h5.ne hD h1))⟩
 ·intro j p hp;obtain⟨m,h4,h5,h6⟩:=h.cT.ok j p hp;refine⟨m,h4,h5,h6.heap (hw _ ?_)⟩;rintro rfl;cases p with
  |loop L s=>obtain⟨r,N,g,_⟩:=h6;rw[hD] at g;cases g;exact h2 r rfl
  |jC k es=>obtain⟨ms,c,g,_⟩:=h6;rw[hD] at g;cases g;exact h3 _ _ rfl
theorem nC {D:Nat}{x y:Obj}(hD:w.heap[D]? =some y)(hB:B≤D):Below B w (w.putObj D x):=
 (Below.refl B w).grown (grownBy_putObj' w D x) (by have:=(Array.getElem?_eq_some_iff.1 hD).1;omega) (λk e=>by cases e;omega)
theorem fI.sw {l:Nat}{r r':Loop}(hl:w.heap[l]? =some (.loop r))(hB:B≤l)(hd:r'.defers=r.defers):fI B w (w.putObj l (.loop r')):=by
 have eR:=(Array.getElem?_eq_some_iff.1 hl).1;refine⟨nC hl hB,?_,?_,by simp⟩
 ·intro b r0 hb;by_cases e:b=l
  ·subst e;rw[hl] at hb;cases hb;exact⟨r',World.putObj_heap_same eR,hd⟩
  ·exact⟨r0,by rw[World.putObj_heap_other e];exact hb,rfl⟩
 ·intro b hb;have e:b≠l:=by rintro rfl;rw[hl] at hb;cases hb
  rw[World.putObj_heap_other e];exact hb
theorem fI.BT {l:Nat}{es es':Array MapEntry}{c c':Nat}(hl:w.heap[l]? =some (.map es c))(hB:B≤l):fI B w (w.putObj l (.map es' c')):=by
 refine⟨nC hl hB,?_,?_,by simp⟩
 ·intro b r0 hb;have e:b≠l:=by rintro rfl;rw[hl] at hb;cases hb
  exact⟨r0,by rw[World.putObj_heap_other e];exact hb,rfl⟩
 ·intro b hb;have e:b≠l:=by rintro rfl;rw[hl] at hb;cases hb
  rw[World.putObj_heap_other e];exact hb
theorem fI.Uv {w0:World}{D:Nat}{x:Obj}(h:fI B w0 w)(hl:w.heap[D]? =some (.deferred (some [])))(hB:B≤D)(hD:w0.heap.size≤D):fI B w0 (w.putObj D x):=by
 refine⟨h.below.trans (nC hl hB),?_,?_,by simpa using h.size⟩
 ·intro b r0 hb;have:=(Array.getElem?_eq_some_iff.1 hb).1
  rw[World.putObj_heap_other (by omega)];exact h.loops b r0 hb
 ·intro b hb;have:=(Array.getElem?_eq_some_iff.1 hb).1
  rw[World.putObj_heap_other (by omega)];exact h.Zy b hb
abbrev Tq (D:Nat):Deferred:={target:=.collected D,args:=#[]}
def Marks (w w':World)(a a':Act):Prop:=
 ∃Ds:List Nat,a'.defers=Ds.map Tq++a.defers∧Ds.Nodup∧∀D∈Ds,w.heap.size≤D∧w'.heap[D]? =some (.deferred (some []))
theorem Marks.of_eq {w w':World}{a a':Act}(h:a'.defers=a.defers):Marks w w' a a':=⟨[],by simpa using h,List.nodup_nil,λD hD=>by cases hD⟩
theorem Marks.trans {w w1 w':World}{a a1 a':Act}(h:Marks w w1 a a1)(hb:fI B w w1)(z7:fI B w1 w')(k:Marks w1 w' a1 a'):Marks w w' a a':=by
 obtain⟨Ds,h1,h2,h3⟩:=h;obtain⟨Es,k1,k2,k3⟩:=k;refine⟨Es++Ds,by rw[k1,h1];simp,?_,?_⟩
 ·rw[List.nodup_append];refine⟨k2,h2,λx hx y hy e=>?_⟩
  subst e;have:=(k3 x hx).1
  have:=(Array.getElem?_eq_some_iff.1 (h3 x hy).2).1
  omega
 ·intro D hD;rcases List.mem_append.1 hD with hD|hD
  ·exact⟨Nat.le_trans hb.size (k3 D hD).1,(k3 D hD).2⟩
  ·exact⟨(h3 D hD).1,z7.Zy D (h3 D hD).2⟩
theorem FV {ro:Option Nat}(fm: ∀l₀,ro=some l₀→∃r,w.heap[l₀]? =some (.loop r))(h:cQ P μ H w B)(fn:FuncId)(a:Act)(ps:Array Tmp)(x y:Code):
  ∃(l:Nat) (mk:List Deferred) (w1:World) (r:Loop),(Instr.enterLoop fn a.tmps ps x y ro).run P w= .ok (l,mk) w1∧w1.heap[l]? =some (.loop r)∧r.params=ps∧r.assign=x∧r.body=y∧r.tmps=a.tmps∧r.state= .ready∧r.pending=none∧
   w.heap.size≤l∧fI B w w1∧(∀k,k<w.heap.size→w1.heap[k]? =w.heap[k]?)∧Marks w w1 a {a with defers:=mk++a.defers}:=by
 cases ro with
 |none=>
  refine⟨_,_,_,{state:=.ready,pending:=none,fn,tmps:=a.tmps,params:=ps,assign:=x,body:=y,defers:=w.heap.size},run_enterLoop_outer fn a.tmps ps x y,?_,rfl,rfl,rfl,rfl,rfl,rfl,by omega,?_,?_,?_⟩
  ·have:=World.alloc_heap_new (w.alloc (.deferred (some []))) (.loop {state:=.ready,pending:=none,fn,tmps:=a.tmps,params:=ps,assign:=x,body:=y,defers:=w.heap.size})
   rwa [World.size_alloc] at this
  ·exact((fI.refl B w).alloc h.base _).alloc (by have:=h.base;simp;omega) _
  ·intro k hk;rw[Below.heap_alloc _ _ _ (by simp;omega),Below.heap_alloc _ _ _ hk]
  ·refine⟨[w.heap.size],rfl,by simp,λD hD=>?_⟩
   simp only[List.mem_singleton] at hD;subst hD;refine⟨Nat.le_refl _,?_⟩;rw[Below.heap_alloc _ _ _ (by simp)];exact World.alloc_heap_new w _
 |some l₀=>
  obtain⟨r₀,hr⟩:=fm l₀ rfl;refine⟨_,_,_,{state:=.ready,pending:=none,fn,tmps:=a.tmps,params:=ps,assign:=x,body:=y,defers:=r₀.defers},run_enterLoop_inner hr fn a.tmps ps x y,?_,rfl,rfl,rfl,rfl,rfl,rfl,Nat.le_refl _,(fI.refl B w).alloc h.base _,λk hk=>Below.heap_alloc _ _ _ hk,Marks.of_eq (by simp)⟩
  exact World.alloc_heap_new w _
end Go.Proofs.YtjgmnoaalbbonaaGreatA.Am
end
