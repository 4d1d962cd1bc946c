/- Texts of the proof of linearChecks_holds, put together by a small program of ours (names shortened, spaces taken out). No condition beyond the given statement. -/
import Derived.Test.YtjgmnoaalbbonaaGreatLCQ2
import Derived.Test.YtjgmnoaalbbonaaGreatLCQ1
import Derived.RangeFuncNested
set_option linter.unusedVariables false
set_option linter.unusedSimpArgs false
set_option linter.unnecessarySimpa false
noncomputable section
section
namespace Go.Proofs.YtjgmnoaalbbonaaGreatA.Am
open Go.RowKit (Below)
variable {P:Program} {μ:Mu} {H H':ae} {w:World} {B:Nat}
theorem da.kill {i:Nat}(h:da P μ H w B):da P μ (H.kill i) w B:=by
 have old: ∀{j:Nat} {c:eY},(H.kill i).get j=some c→H.get j=some c:=by
  intro j c hc;by_cases e:j=i
  ·subst e;rw[ae.nK] at hc;cases hc
  ·rw[ae.iX e] at hc;exact hc
 exact⟨h.base,λj c hc=>h.ok j c (old hc),λj hj=>h.Cv j (by rw[ae.ie] at hj;exact hj),
  λj k c d l m hc hd=>h.inj j k c d l m (old hc) (old hd),λj c l hc=>h.own j c l (old hc),h.db.keep μ.le_refl (λ_ _=>ae.qD) (λ_ _ h _=>h),λk hk=>h.yl k (ae.vT hk).1⟩
theorem Dy (zj:Nat): ∀(r c:Nat),c≤zj→Builtin.growBy zj r c≤2*zj+192
 |0,c,h=>by simp only[Builtin.growBy];omega
 |r+1,c,h=>by
  simp only[Builtin.growBy];split
  ·omega
  ·by_cases hc:c+(c+768)/4≤zj
   ·exact Dy zj r _ hc
   ·cases r with
    |zero=>simp only[Builtin.growBy];omega
    |succ r=>simp only[Builtin.growBy];rw[if_pos (by omega)];omega
theorem Ja {need c:Nat}(h:c<need):Builtin.nextslicecap need c≤2*need+192:=by
 unfold Builtin.nextslicecap;split
 ·omega
 ·split
  ·omega
  ·exact Dy need 4 c (by omega)
theorem qE {size n c:Nat}{a:Option Addr}{x':Value}{cs:List Value}(hS:da P μ H w B)(hx:VR μ (.slice a n c) x'){m:Nat}(hm:m≤n)(h:bp H size m (.slice a n c)=some cs):
  cs.length=m*size∧cs.all aD=true∧∃dg,dR μ cs dg∧∀w2,w2.heap=w.heap→(Builtin.firstCells size m x').run P w2= .ok dg.toArray w2:=by
 unfold bp at h;split at h
 ·rename_i i off _ _ e;cases e;by_cases hm0:m=0
  ·subst hm0;rw[if_pos rfl] at h;cases h;rcases hx.dO with⟨i',Qq,dY,l,e,hl,g1,g2,g3,rfl⟩|⟨i',Qq,a',e,rfl,rfl,rfl⟩
   ·exact⟨by simp,by simp,[],.nil,λw2 _=>by simp[Builtin.firstCells,loadCells,loadCellsFrom]⟩
   ·exact⟨by simp,by simp,[],.nil,λw2 _=>by simp[Builtin.firstCells,loadCells,loadCellsFrom]⟩
  rw[if_neg hm0] at h;rcases hx.dO with⟨i',Qq,dY,l,e,hl,g1,g2,g3,rfl⟩|⟨i',Qq,a',e,rfl,rfl,rfl⟩
  ·cases e;obtain⟨hlen,dg,hv,hc⟩:=hS.aA hl h;refine⟨hlen,hS.Dt h,dg,hv,λw2 he=>?_⟩
   have hr:=run_loadCells_list (P:=P) w2 ⟨l.b,l.o+off,none⟩ dg (λj v hj=>by rw[←hc j v hj];simp[World.cell?,he])
   rw[←hv.1,hlen] at hr;exact hr
  ·omega
 ·rename_i e;cases e;obtain⟨rfl,rfl,rfl⟩:=hx.ji;have hm0:m=0:=by omega
  subst hm0;simp only[if_true] at h;cases h;exact⟨by simp,by simp,[],.nil,λw2 _=>by simp[Builtin.firstCells]⟩
 ·cases h
theorem zm {y6 tV elem ty:TypeId}{size bytes n sLen sCap:Nat}{i:TypeInfo}{z x x':Value}{new:List Value}(hS:da P μ H w B)(hx:VR μ x x')(hu:P.underlying y6=some (.slice elem))(hs:iU P elem=some size)(hi:P.info? elem=some i)(X0:i.bytes=bytes)(hz:zeroOf P elem=some z)(h:GQ P H tV size bytes z x=some (n,new))(base:Option Addr):
  new.length=n*size∧new.all aD=true∧∃mF,dR μ new mF∧
   (sLen+n≤sCap→(Builtin.append_ #[y6,tV] ty #[.slice base sLen sCap,x']).run P w=
    ((match base with|some a=>storeCells (a.add (sLen*size)) mF|none=>pure ():Sem Unit).run P w).andThen λ_ w=>.ok (.slice base (sLen+n) sCap) w)∧
   (¬sLen+n≤sCap→sLen+n≤4294967296→bytes≤4096→∀mG:List Value,(∀w2,w2.heap=w.heap→(Builtin.firstCells size sLen (.slice base sLen sCap)).run P w2= .ok mG.toArray w2)→
    ∃fM,sLen+n≤fM∧(Builtin.append_ #[y6,tV] ty #[.slice base sLen sCap,x']).run P w=
     .ok (.slice (some ⟨w.heap.size,0,none⟩) (sLen+n) fM) (w.drew.alloc (.cells (mG.toArray++(mF.toArray++Builtin.zeroCells z.cells (fM-(sLen+n)))) elem))):=by
 obtain⟨IU,qm,m,hm,yq⟩:=eG hz w;rw[hs] at hm;cases hm;have X2: ¬sLen+n≤sCap→sLen+n≤4294967296→bytes≤4096→¬281474976710656<Builtin.nextslicecap (sLen+n) sCap*i.bytes:=by
  intro h1 h2 h3;have h4:=Ja (need:=sLen+n) (c:=sCap) (by omega)
  have h5:Builtin.nextslicecap (sLen+n) sCap*i.bytes≤(2*(sLen+n)+192)*4096:=Nat.mul_le_mul h4 (by omega)
  omega
 unfold GQ at h;split at h
 ·rename_i k l hxu;split at h
  ·rename_i hc;obtain⟨h0,h1,X3⟩:=hc;cases h;obtain rfl:=hx.int;have hw:IntKind.i64.wrap l=l:=by rw[IntKind.wrap_i64];omega
   have hl0: ¬l<0:=by omega
   have No: ¬281474976710656<l*(i.bytes:Int):=by
    have h2:(i.bytes:Int)≤4096:=by omega
    have:l*(i.bytes:Int)≤l*4096:=Int.mul_le_mul_of_nonneg_left h2 h0;omega
   have IT:l.toNat*size=0→ct z.cells.toList l.toNat=[]:=λhe=>List.eq_nil_of_length_eq_zero (by rw[fL];simp[yq,he])
   have UP: ¬l.toNat*size=0→Builtin.zeroCells z.cells l.toNat=(ct z.cells.toList l.toNat).toArray:=by
    intro he;have eC:z.cells.size≠0:=by rw[yq];intro e;rw[e] at he;simp at he
    rw[←nM _ _ eC]
   refine⟨by rw[fL];simp[yq],oj qm _,_,my qm _,?_,?_⟩
   ·intro iN;simp[Builtin.append_,run_underlying hu,run_underlying hxu,eZ hs,iN,mE hi,asInt,asIntOf,hw,hl0,No];by_cases he:l.toNat*size=0
    ·rw[if_pos he,IT he];cases base<;>simp
    ·rw[if_neg he];simp only[(eG hz _).1,Result.andThen_ok,UP he];cases base<;>simp
   ·intro iN zi zg mG hold;refine⟨(Question.appendCap (sLen+l.toNat) sCap elem).cut (w.tape w.drawn (Question.appendCap (sLen+l.toNat) sCap elem)),?_,?_⟩
    ·simp[Question.cut]
    ·simp[Builtin.append_,run_underlying hu,run_underlying hxu,eZ hs,iN,mE hi,asInt,asIntOf,hw,hl0,No,(eG hz _).1,Question.forced];rw[if_neg (by omega),if_neg (X2 iN zi zg)]
     simp[hold w.drew rfl];by_cases he:l.toNat*size=0
     ·rw[if_pos he,IT he];simp[newRow]
      try rfl
     ·rw[if_neg he,UP he];simp[newRow]
      try rfl
  ·cases h
 ·rename_i e2 a c hxu;rw[Option.map_eq_some_iff] at h;obtain⟨cs,lQ,e⟩:=h;cases e;obtain⟨hle,a',c',rfl,_,_⟩:=hx.gC;obtain⟨hlen,ur,dg,hv,eK⟩:=qE (P:=P) hS hx (Nat.le_refl _) lQ;refine⟨hlen,ur,dg,hv,?_,?_⟩
  ·intro iN;simp[Builtin.append_,run_underlying hu,run_underlying hxu,eZ hs,Builtin.lenOf,iN,eK w rfl];cases base<;>simp
  ·intro iN zi zg mG hold;refine⟨(Question.appendCap (sLen+n) sCap elem).cut (w.tape w.drawn (Question.appendCap (sLen+n) sCap elem)),?_,?_⟩
   ·simp[Question.cut]
   ·simp[Builtin.append_,run_underlying hu,run_underlying hxu,eZ hs,Builtin.lenOf,iN,mE hi,(eG hz _).1,Question.forced];rw[if_neg (by omega),if_neg (X2 iN zi zg)]
    simp[hold w.drew rfl,eK w.drew rfl];rfl
 ·cases h
theorem xG {z v:Value}(hz:gZ z=true){m k:Nat}(h:(Builtin.zeroCells z.cells m)[k]? =some v):cF v=true:=by
 have sY:=Array.mem_of_getElem? h;have Eo: ∀x∈z.cells.toList,cF x=true:=by
  intro x hx;cases z with
  |agg cs=>
   simp only[gZ,List.all_eq_true] at hz;exact hz x (by simpa[Value.cells] using hx)
  |_=>simp only[Value.cells,List.mem_singleton] at hx;subst hx;exact hz
 unfold Builtin.zeroCells at sY;obtain⟨i,hi,rfl⟩:=Array.mem_map.1 sY;have wZ:=Array.mem_range.1 hi;have Jb:0<z.cells.size:=by
  rcases Nat.eq_zero_or_pos z.cells.size with h0|h0
  ·rw[h0] at wZ;simp at wZ
  ·exact h0
 have dH:i%z.cells.size<z.cells.size:=Nat.mod_lt _ Jb;rw[getElem!_pos z.cells _ dH];exact Eo _ (by simp)
theorem uu {old new mG mF:List Value}{z:Value}{size sLen n fM:Nat}{elem:TypeId}(hS:da P μ H w B)(ho:dR μ old mG)(hn:dR μ new mF)(h1:old.all aD=true)(h2:new.all aD=true)(yl:old.length=sLen*size)(hnl:new.length=n*size)(hz:z.cells.size=size)(hzp:gZ z=true)(Uo:size≠0)(sZ:sLen+n≤fM):
  Told P μ (.slice (some ⟨H.length,0,none⟩) (sLen+n) (sLen+n)) (H.new ⟨old++new,elem,size,false⟩) w B
   (.ok (.slice (some ⟨w.heap.size,0,none⟩) (sLen+n) fM) (w.drew.alloc (.cells (mG.toArray++(mF.toArray++Builtin.zeroCells z.cells (fM-(sLen+n)))) elem))):=by
 have hzl:(Builtin.zeroCells z.cells (fM-(sLen+n))).size=(fM-(sLen+n))*size:=by
  have:=congrArg List.length (nM z.cells (fM-(sLen+n)) (by omega))
  rw[fL] at this;simp at this;rw[this,hz]
 have oY:(mG.toArray++(mF.toArray++Builtin.zeroCells z.cells (fM-(sLen+n)))).size=fM*size:=by
  have h1:=ho.1;have h2:=hn.1;have h3:(sLen+n)*size=sLen*size+n*size:=Nat.add_mul _ _ _;have h4:fM*size=(sLen+n)*size+(fM-(sLen+n))*size:=by rw[←Nat.add_mul];congr 1;omega
  simp[hzl];omega
 have hSd:da P μ H w.drew B:=hS.heap rfl;obtain⟨g1,g2⟩:=hSd.alloc (old++new) elem elem size (mG.toArray++(mF.toArray++Builtin.zeroCells z.cells (fM-(sLen+n)))) (fM*size) oY.symm (by rw[List.all_append,h1,h2];rfl)
  (by have h1:=ho.1;have h2:=hn.1;simp;omega)
  (by
   have e:(mG.toArray++(mF.toArray++Builtin.zeroCells z.cells (fM-(sLen+n)))).toList=(mG++mF)++(Builtin.zeroCells z.cells (fM-(sLen+n))).toList:=by simp
   rw[e,List.take_append_of_le_length (by have h1:=ho.1;have h2:=hn.1;simp;omega),List.take_of_length_le (by have h1:=ho.1;have h2:=hn.1;simp;omega)]
   exact ho.append hn)
  (by
   intro k v hk xF;have h1:=ho.1;have h2:=hn.1;rw[Array.getElem?_append_right (by simp at hk ⊢;omega),Array.getElem?_append_right (by simp at hk ⊢;omega)] at xF
   exact xG hzp xF)
 refine⟨_,_,_,rfl,g1,?_,g2,((gE.refl _ _).drew).alloc hSd.base _⟩;have:=VR.slice (μ:=μ.up H.length ⟨w.drew.heap.size,0,fM*size,size⟩) H.length 0 (sLen+n) (sLen+n) fM _ Mu.aQ (Nat.le_refl _) sZ (by simp)
 simpa using this
theorem Cx {argTypes:Array TypeId}{ty:TypeId}{s s' x x' v:Value}(hS:da P μ H w B)(hs:VR μ s s')(hx:VR μ x x')(h:rD P argTypes s x H=some (v,H')):
  Told P μ v H' w B ((Builtin.append_ argTypes ty #[s',x']).run P w):=by
 unfold rD at h;split at h
 ·rename_i y6 tV Uo hx0;have qF:(Builtin.append_ argTypes ty #[s',x'])=(Builtin.append_ #[y6,tV] ty #[s',x']):=by
   unfold Builtin.append_;simp only[Uo,hx0];rfl
  rw[qF];split at h
  ·rename_i elem base sLen sCap hu;split at h
   ·rename_i size bytes z oY hbt hz;obtain⟨i,hi,X0⟩:=oX hbt;obtain⟨_,qm,m,hm,yq⟩:=eG hz w;rw[oY] at hm;cases hm;split at h
    ·rename_i n new hg;obtain⟨adE,zn,zo,rfl,I8,YY⟩:=hs.gC;obtain⟨hlen,ur,mF,Ep,iN,G4⟩:=zm (ty:=ty) (sLen:=sLen) (sCap:=zo) hS hx hu oY hi X0 hz hg zn;have ug:mF.length=n*size:=by rw[←Ep.1];exact hlen
     simp only at h;split at h
     ·
      rename_i hle;rw[iN (by omega)]
      cases base with
      |none=>
       obtain⟨rfl,rfl,e⟩:=hs.ji;cases e;simp only at h;cases h;have Lu:n=0:=by omega
       subst Lu;exact Told.same hS hs
      |some ad=>
       obtain⟨i',off,spot⟩:=ad;cases spot with
       |some _=>cases h
       |none=>
        simp only at h;split at h
        ·rename_i Lu;cases h;subst Lu;have:mF=[]:=List.eq_nil_of_length_eq_zero (by rw[ug];simp)
         subst this;rcases hs.dO with⟨i2,qG,Er,l,e,hl,g1,g2,g3,e2⟩|⟨i2,qG,a2,e,rfl,rfl,e2⟩
         ·cases e2;simp only[storeCells,Sem.run_pure,Result.andThen_ok];exact Told.same hS hs
         ·cases e2;simp only[storeCells,Sem.run_pure,Result.andThen_ok];exact Told.same hS hs
        ·rename_i Lu;cases hb:H.get i' with
         |none=>rw[hb] at h;cases h
         |some b=>
          rw[hb] at h;simp only at h;split at h
          ·rename_i Ck;rw[Option.map_eq_some_iff] at h;obtain⟨H2,ky,e⟩:=h;cases e;rcases hs.dO with⟨i2,qG,Er,l,e,hl,g1,g2,g3,e2⟩|⟨i2,qG,a2,e,rfl,rfl,e2⟩
           ·cases e;cases e2;obtain⟨w',hr,pY,hB⟩:=hS.st hl ky Ep;rw[←Nat.add_assoc, ←iY (l.b) (l.o+off) (sLen*size)] at hr;simp only[hr,Result.andThen_ok];exact⟨_,μ,w',rfl,μ.le_refl,.slice i' off (sLen+n) sCap zo l hl hle YY g3,pY,hB⟩
           ·omega
          ·cases h
     ·rename_i hle;split at h
      ·rename_i jS;simp only[Bool.and_eq_true,decide_eq_true_eq,ne_eq] at jS;obtain⟨⟨zi,X3⟩,Jc⟩:=jS;have Jc:size≠0:=by simpa using Jc
       cases base with
       |none=>
        obtain⟨rfl,rfl,e⟩:=hs.ji;cases e;simp only[if_true] at h;cases h;obtain⟨fM,sZ,eK⟩:=G4 hle zi X3 [] (λw2 _=>by simp[Builtin.firstCells])
        rw[eK];have:=uu (elem:=elem) (old:=[]) (mG:=[]) (sLen:=0) hS .nil Ep rfl ur (by simp) hlen yq qm Jc sZ
        simpa using this
       |some ad=>
        obtain⟨i',off,spot⟩:=ad;cases spot with
        |some _=>cases h
        |none=>
         simp only at h;cases hb:H.get i' with
         |none=>rw[hb] at h;cases h
         |some b=>
          rw[hb] at h;simp only at h;split at h
          ·rename_i gJ;simp only[Bool.and_eq_true,Bool.not_eq_true',beq_iff_eq] at gJ;obtain⟨⟨fQ,Ck⟩,mf⟩:=gJ;cases fN:aA H i' off (sLen*size) with
           |none=>rw[fN] at h;cases h
           |some old=>
            rw[fN] at h;simp only at h;cases h;rcases hs.dO with⟨i2,qG,Er,l,e,hl,g1,g2,g3,e2⟩|⟨i2,qG,a2,e,rfl,rfl,e2⟩
            ·cases e;cases e2;obtain⟨Dz,mG,hold,wY⟩:=hS.aA hl fN;by_cases Lv:sLen+n≤zo
             ·
              obtain⟨m,hm,k⟩:=hS.ok i' b hb;rw[hl] at hm;cases hm;obtain⟨cs,nL,fz,r1,r2,r3,r4,r5⟩:=k.row;obtain rfl:=r3 fQ;have Y0:l.es=size:=k.es.trans Ck;rw[Y0] at g3;have hmul:(sLen+n)*size≤zo*size:=Nat.mul_le_mul_right _ Lv;have ah5:(sLen+n)*size=sLen*size+n*size:=Nat.add_mul _ _ _;have kA: ∀v∈mF,v.oneCell'=true:=Ep.GU ur;have lD:=run_storeCells_at (P:=P) l.b (l.o+off+sLen*size) nL mF 0 cs w r1 (by omega) kA
              rw[iN Lv];simp only[iY,lD,Result.andThen_ok];have Y2:dR μ (old++new) (((cs.toList.take (l.o+off+sLen*size+0)++mF++cs.toList.drop (l.o+off+sLen*size+0+mF.length)).toArray.toList.drop (l.o+off)).take (old++new).length):=by
               have lQ:cs.toList.length=cs.size:=by simp
               have yl:mG.length=sLen*size:=by rw[←hold.1];exact Dz
               have e:(((cs.toList.take (l.o+off+sLen*size+0)++mF++cs.toList.drop (l.o+off+sLen*size+0+mF.length)).toArray.toList.drop (l.o+off)).take (old++new).length)=mG++mF:=by
                apply List.ext_getElem?;intro j;simp only[Nat.add_zero,List.getElem?_take,List.getElem?_drop,List.getElem?_append,List.length_append,List.length_take,lQ,Dz,hlen];by_cases hj:j<mG.length
                ·rw[if_pos (by omega),if_pos (by omega),if_pos (by omega),if_pos (by omega),if_pos hj]
                 have:=wY j mG[j] (List.getElem?_eq_getElem hj)
                 rw[iY] at this;simp only[World.cell?,r1] at this;rw[List.getElem?_eq_getElem hj, ←this];simp
                ·rw[if_neg hj];by_cases jJ:j<sLen*size+n*size
                 ·rw[if_pos jJ,if_pos (by omega),if_neg (by omega)]
                  congr 1;omega
                 ·rw[if_neg jJ,List.getElem?_eq_none (by omega)]
               rw[e];exact hold.append Ep
              have Y3: ∀(P7:Array Value) ty3 UO,(w.setRow l.b (cs.toList.take (l.o+off+sLen*size+0)++mF++cs.toList.drop (l.o+off+sLen*size+0+mF.length)).toArray).heap[l.b]? =some (.cells P7 ty3 UO)→∀(k:Nat) (v:Value),l.o+off+(old++new).length≤k→P7[k]? =some v→cF v=true:=by
               intro P7 ty3 UO g2 j v hj xF;rw[setRow_heap w l.b cs _ nL (0,0) r1] at g2;cases g2;have lQ:cs.toList.length=cs.size:=by simp
               simp only[List.length_append,Dz,hlen] at hj;refine(hS.ok i' b hb).elim λl0 hl0=>?_
               obtain⟨e0,k0⟩:=hl0;rw[hl] at e0;cases e0;have q3:(sLen+n)*size=sLen*size+n*size:=Nat.add_mul _ _ _;have q4:sCap*size≤(sLen+n)*size:=Nat.mul_le_mul_right _ (by omega)
               refine k0.spare fQ cs nL (0,0) r1 j v (by omega) ?_
               rw[←xF];simp only[Nat.add_zero,List.getElem?_toArray,List.getElem?_append,List.length_append,List.length_take,lQ,List.getElem?_drop];rw[if_neg (by omega), ←Array.getElem?_toList]
               congr 1;omega
              obtain⟨q1,q2⟩:=hS.move (b':=⟨old++new,elem,size,false⟩) (l':=⟨l.b,l.o+off,l.sz,size⟩) hb fQ hl rfl (λk hk=>setRow_other w l.b k _ hk) (setRow_size _ _ _)
               ⟨rfl,by show(old++new).all aD=true;rw[List.all_append,hS.Dt fN,ur];rfl,λ_=>Y3,_,nL,(0,0),setRow_heap w l.b cs _ nL (0,0) r1,by simp;omega,λ_=>rfl,by simp;omega,Y2⟩
              refine⟨_,_,_,rfl,q1,?_,q2,uf (hS.own i' b l hb fQ hl) (λo ho=>by rw[r1] at ho;cases ho;rfl)⟩
              have:=VR.slice (μ:=μ.up H.length ⟨l.b,l.o+off,l.sz,size⟩) H.length 0 (sLen+n) (sLen+n) zo _ Mu.aQ (Nat.le_refl _) Lv (by simpa using g3)
              simpa using this
             ·obtain⟨fM,sZ,eK⟩:=G4 Lv zi X3 mG (λw2 he=>by
               have hr:=run_loadCells_list (P:=P) w2 ⟨l.b,l.o+off,none⟩ mG (λj v hj=>by rw[←wY j v hj];simp[World.cell?,he])
               rw[←hold.1,Dz] at hr;exact hr)
              rw[eK];have:=uu (elem:=elem) (hS.kill (i:=i')) hold Ep (hS.Dt fN) ur Dz hlen yq qm Jc sZ
              rw[ae.ie] at this;exact this
            ·cases e;cases e2;obtain⟨fM,sZ,eK⟩:=G4 (by omega) zi X3 [] (λw2 he=>by simp[Builtin.firstCells,loadCells,loadCellsFrom])
             rw[eK];have adF:old=[]:=List.eq_nil_of_length_eq_zero (by
              unfold aA at fN;rw[hb] at fN;simp only at fN;split at fN
              ·cases fN;simp
              ·cases fN)
             subst adF;have:=uu (elem:=elem) (old:=[]) (mG:=[]) (sLen:=0) (hS.kill (i:=i')) .nil Ep rfl ur (by simp) hlen yq qm Jc sZ
             rw[ae.ie] at this;exact this
          ·cases h
      ·cases h
    ·cases h
   ·cases h
  ·cases h
 ·cases h
variable {P:Program} {μ:Mu} {H H':ae} {w w1:World} {B:Nat}
theorem n9.ne {b:eY}{l:Loc}(h:n9 μ w b l){k:Nat}{x:Obj}(hk:w.heap[k]? =some x)(hx:x.isCells=false):l.b≠k:=by
 rintro rfl;obtain⟨cs,ty,fz,h1,_⟩:=h.row;rw[h1] at hk;cases hk;cases hx
theorem da.gX (h:da P μ H w B)(hw: ∀k,k<w.heap.size→w1.heap[k]? =w.heap[k]?)(hs:w.heap.size≤w1.heap.size){l:Nat}(hl:w.heap.size≤l){o:dq}(ho:oa P μ w1 o l):
  μ.le (μ.up H.length ⟨l,0,0,0⟩)∧da P (μ.up H.length ⟨l,0,0,0⟩) (H.gX o) w1 B:=by
 have hle:=Mu.Dq (l:=⟨l,0,0,0⟩) (h.Cv H.length (Nat.le_refl _));have back: ∀{i:Nat} {m:Loc},i<H.length→(μ.up H.length ⟨l,0,0,0⟩) i=some m→μ i=some m:=by
  intro i m hi hm
  rwa [Mu.dc (by omega)] at hm
 refine⟨hle,Nat.le_trans h.base hs,?_,?_,?_,?_,?_,λk hk=>by obtain⟨h1,h2⟩:=ae.Nh hk;rw[Mu.dc (by omega)];exact h.yl k h1⟩
 ·intro i b hb;have hb:=ae.ua hb;obtain⟨m,h1,h2⟩:=h.ok i b hb;exact⟨m,hle _ _ h1,(h2.mono hle).heap (hw _ h2.lt)⟩
 ·intro i hi;rw[ae.qC] at hi;rw[Mu.dc (by omega)];exact h.Cv i (by omega)
 ·intro i j b c m n hb hc hm hn GF fQ;have hb:=ae.ua hb;have hc:=ae.ua hc;exact h.inj i j b c m n hb hc (back (ae.aq hb) hm) (back (ae.aq hc) hn) GF fQ
 ·intro i b m hb fQ hm;have hb:=ae.ua hb;exact h.own i b m hb fQ (back (ae.aq hb) hm)
 ·refine⟨?_,?_⟩
  ·intro i p hp;rcases ae.od hp with⟨rfl,rfl⟩|⟨hi,hp⟩
   ·exact⟨_,Mu.aQ,Nat.le_trans h.base hl,ho.mono hle⟩
   ·obtain⟨m,h1,h2,h3⟩:=h.db.ok i p hp;exact⟨m,hle _ _ h1,h2,(h3.mono hle).heap (hw _ h3.lt)⟩
  ·intro i j p q m n hp hq hm hn GF;rcases ae.od hp with⟨rfl,rfl⟩|⟨hi,Qa⟩<;>rcases ae.od hq with⟨rfl,rfl⟩|⟨hj,Lw⟩
   ·exact absurd rfl GF
   ·rw[Mu.aQ] at hm;cases hm;obtain⟨n',e,_,k⟩:=h.db.ok j q Lw;have e2:=back hj hn;rw[e] at e2;cases e2;have:=k.lt;show l≠n.b;omega
   ·rw[Mu.aQ] at hn;cases hn;obtain⟨m',e,_,k⟩:=h.db.ok i p Qa;have e2:=back hi hm;rw[e] at e2;cases e2;have:=k.lt;show m.b≠l;omega
   ·exact h.db.inj i j p q m n Qa Lw (back hi hm) (back hj hn) GF
theorem da.fC (h:da P μ H w B){i:Nat}{o o':dq}{l:Loc}{x:Obj}(hi:H.db i=some o)(hl:μ i=some l)(ho:oa P μ (w.putObj l.b x) o' l.b):da P μ (H.fC i o') (w.putObj l.b x) B:=by
 obtain⟨l',e,hB,gJ⟩:=h.db.ok i o hi;rw[hl] at e;cases e;obtain⟨y,hy,hyc⟩:=gJ.at;have hw: ∀k,k≠l.b→(w.putObj l.b x).heap[k]? =w.heap[k]? :=λk hk=>World.putObj_heap_other hk
 refine⟨by simpa using h.base,?_,λk hk=>h.Cv k (by rw[ae.GX] at hk;exact hk),?_,?_,⟨?_,?_⟩,λk hk=>h.yl k (ae.Ni hk).1⟩
 ·intro j b hb;rw[ae.oe hi] at hb;obtain⟨m,h1,h2⟩:=h.ok j b hb;exact⟨m,h1,h2.heap (hw _ (h2.ne hy hyc))⟩
 ·intro j k b c m n hb hc;rw[ae.oe hi] at hb hc;exact h.inj j k b c m n hb hc
 ·intro j b m hb;rw[ae.oe hi] at hb;exact h.own j b m hb
 ·intro j p hp;by_cases e:j=i
  ·subst e;rw[ae.sH (ae.fi hi)] at hp;cases hp;exact⟨l,hl,hB,ho⟩
  ·rw[ae.wW e] at hp;obtain⟨m,h1,h2,h3⟩:=h.db.ok j p hp;exact⟨m,h1,h2,h3.heap (hw _ (h.db.inj j i p o m l hp hi h1 hl e))⟩
 ·intro j k p q m n hp hq hm hn Ek;have old: ∀{j:Nat} {p:dq},(H.fC i o').db j=some p→∃p',H.db j=some p':=by
   intro j p hp;by_cases e:j=i
   ·subst e;exact⟨_,hi⟩
   ·rw[ae.wW e] at hp;exact⟨_,hp⟩
  obtain⟨p',hp⟩:=old hp;obtain⟨q',hq⟩:=old hq;exact h.db.inj j k p' q' m n hp hq hm hn Ek
theorem da.adG (h:da P μ H w B){i:Nat}{o:dq}{l:Loc}{x:Obj}(hi:H.db i=some o)(hl:μ i=some l):da P μ (H.kill i) (w.putObj l.b x) B:=by
 obtain⟨l',e,hB,gJ⟩:=h.db.ok i o hi;rw[hl] at e;cases e;obtain⟨y,hy,hyc⟩:=gJ.at;have hw: ∀k,k≠l.b→(w.putObj l.b x).heap[k]? =w.heap[k]? :=λk hk=>World.putObj_heap_other hk
 refine⟨by simpa using h.base,?_,λk hk=>h.Cv k (by rw[ae.ie] at hk;exact hk),?_,?_,⟨?_,?_⟩,λk hk=>h.yl k (ae.vT hk).1⟩
 ·intro j b hb;obtain⟨m,h1,h2⟩:=h.ok j b (ae.ub hb);exact⟨m,h1,h2.heap (hw _ (h2.ne hy hyc))⟩
 ·intro j k b c m n hb hc;exact h.inj j k b c m n (ae.ub hb) (ae.ub hc)
 ·intro j b m hb;exact h.own j b m (ae.ub hb)
 ·intro j p hp;have e:j≠i:=by rintro rfl;rw[ae.sI] at hp;cases hp
  have hp:=ae.qD hp;obtain⟨m,h1,h2,h3⟩:=h.db.ok j p hp;exact⟨m,h1,h2,h3.heap (hw _ (h.db.inj j i p o m l hp hi h1 hl e))⟩
 ·intro j k p q m n hp hq;exact h.db.inj j k p q m n (ae.qD hp) (ae.qD hq)
theorem da.UQ (h:da P μ H w B){D:Nat}{x y:Obj}(hD:w.heap[D]? =some y)(h1:y.isCells=false)(h2: ∀r,y≠ .loop r)(h3: ∀es c,y≠ .map es c):da P μ H (w.putObj D x) B:=by
 have hw: ∀k,k≠D→(w.putObj D x).heap[k]? =w.heap[k]? :=λk hk=>World.putObj_heap_other hk
 refine⟨by simpa using h.base,?_,h.Cv,h.inj,h.own,⟨?_,h.db.inj⟩,h.yl⟩
 ·intro j b hb;obtain⟨m,h4,h5⟩:=h.ok j b hb;exact⟨m,h4,h5.heap (hw _ (h5.ne hD h1))⟩
 ·intro j p hp;obtain⟨m,h4,h5,h6⟩:=h.db.ok j p hp;refine⟨m,h4,h5,h6.heap (hw _ ?_)⟩;rintro rfl;cases p with
  |loop L s=>obtain⟨r,N,g,_⟩:=h6;rw[hD] at g;cases g;exact h2 r rfl
  |kz k es=>obtain⟨ms,c,g,_⟩:=h6;rw[hD] at g;cases g;exact h3 _ _ rfl
theorem pa {D:Nat}{x y:Obj}(hD:w.heap[D]? =some y)(hB:B≤D):Below B w (w.putObj D x):=
 (Below.refl B w).grown (grownBy_putObj' w D x) (by have:=(Array.getElem?_eq_some_iff.1 hD).1;omega) (λk e=>by cases e;omega)
theorem gE.uw {l:Nat}{r r':Loop}(hl:w.heap[l]? =some (.loop r))(hB:B≤l)(hd:r'.defers=r.defers):gE B w (w.putObj l (.loop r')):=by
 have dH:=(Array.getElem?_eq_some_iff.1 hl).1;refine⟨pa hl hB,?_,?_,by simp⟩
 ·intro b r0 hb;by_cases e:b=l
  ·subst e;rw[hl] at hb;cases hb;exact⟨r',World.putObj_heap_same dH,hd⟩
  ·exact⟨r0,by rw[World.putObj_heap_other e];exact hb,rfl⟩
 ·intro b hb;have e:b≠l:=by rintro rfl;rw[hl] at hb;cases hb
  rw[World.putObj_heap_other e];exact hb
theorem gE.Et {l:Nat}{es es':Array MapEntry}{c c':Nat}(hl:w.heap[l]? =some (.map es c))(hB:B≤l):gE B w (w.putObj l (.map es' c')):=by
 refine⟨pa hl hB,?_,?_,by simp⟩
 ·intro b r0 hb;have e:b≠l:=by rintro rfl;rw[hl] at hb;cases hb
  exact⟨r0,by rw[World.putObj_heap_other e];exact hb,rfl⟩
 ·intro b hb;have e:b≠l:=by rintro rfl;rw[hl] at hb;cases hb
  rw[World.putObj_heap_other e];exact hb
theorem gE.Y4 {w0:World}{D:Nat}{x:Obj}(h:gE B w0 w)(hl:w.heap[D]? =some (.deferred (some [])))(hB:B≤D)(hD:w0.heap.size≤D):gE B w0 (w.putObj D x):=by
 refine⟨h.below.trans (pa hl hB),?_,?_,by simpa using h.size⟩
 ·intro b r0 hb;have:=(Array.getElem?_eq_some_iff.1 hb).1
  rw[World.putObj_heap_other (by omega)];exact h.loops b r0 hb
 ·intro b hb;have:=(Array.getElem?_eq_some_iff.1 hb).1
  rw[World.putObj_heap_other (by omega)];exact h.dfr b hb
abbrev X4 (D:Nat):Deferred:={target:=.collected D,args:=#[]}
def Marks (w w':World)(a a':Act):Prop:=
 ∃Ds:List Nat,a'.defers=Ds.map X4++a.defers∧Ds.Nodup∧∀D∈Ds,w.heap.size≤D∧w'.heap[D]? =some (.deferred (some []))
theorem Marks.of_eq {w w':World}{a a':Act}(h:a'.defers=a.defers):Marks w w' a a':=⟨[],by simpa using h,List.nodup_nil,λD hD=>by cases hD⟩
theorem Marks.trans {w w1 w':World}{a a1 a':Act}(h:Marks w w1 a a1)(hb:gE B w w1)(tN:gE B w1 w')(k:Marks w1 w' a1 a'):Marks w w' a a':=by
 obtain⟨Ds,h1,h2,h3⟩:=h;obtain⟨Es,k1,k2,k3⟩:=k;refine⟨Es++Ds,by rw[k1,h1];simp,?_,?_⟩
 ·rw[List.nodup_append];refine⟨k2,h2,λx hx y hy e=>?_⟩
  subst e;have:=(k3 x hx).1
  have:=(Array.getElem?_eq_some_iff.1 (h3 x hy).2).1
  omega
 ·intro D hD;rcases List.mem_append.1 hD with hD|hD
  ·exact⟨Nat.le_trans hb.size (k3 D hD).1,(k3 D hD).2⟩
  ·exact⟨(h3 D hD).1,tN.dfr D (h3 D hD).2⟩
theorem Jd {ro:Option Nat}(fQ: ∀l₀,ro=some l₀→∃r,w.heap[l₀]? =some (.loop r))(h:da P μ H w B)(fn:FuncId)(a:Act)(ps:Array Tmp)(x y:Code):
  ∃(l:Nat) (mk:List Deferred) (w1:World) (r:Loop),(Instr.enterLoop fn a.tmps ps x y ro).run P w= .ok (l,mk) w1∧w1.heap[l]? =some (.loop r)∧r.params=ps∧r.assign=x∧r.body=y∧r.tmps=a.tmps∧r.state= .ready∧r.pending=none∧
   w.heap.size≤l∧gE B w w1∧(∀k,k<w.heap.size→w1.heap[k]? =w.heap[k]?)∧Marks w w1 a {a with defers:=mk++a.defers}:=by
 cases ro with
 |none=>
  refine⟨_,_,_,{state:=.ready,pending:=none,fn,tmps:=a.tmps,params:=ps,assign:=x,body:=y,defers:=w.heap.size},run_enterLoop_outer fn a.tmps ps x y,?_,rfl,rfl,rfl,rfl,rfl,rfl,by omega,?_,?_,?_⟩
  ·have:=World.alloc_heap_new (w.alloc (.deferred (some []))) (.loop {state:=.ready,pending:=none,fn,tmps:=a.tmps,params:=ps,assign:=x,body:=y,defers:=w.heap.size})
   rwa [World.size_alloc] at this
  ·exact((gE.refl B w).alloc h.base _).alloc (by have:=h.base;simp;omega) _
  ·intro k hk;rw[Below.heap_alloc _ _ _ (by simp;omega),Below.heap_alloc _ _ _ hk]
  ·refine⟨[w.heap.size],rfl,by simp,λD hD=>?_⟩
   simp only[List.mem_singleton] at hD;subst hD;refine⟨Nat.le_refl _,?_⟩;rw[Below.heap_alloc _ _ _ (by simp)];exact World.alloc_heap_new w _
 |some l₀=>
  obtain⟨r₀,hr⟩:=fQ l₀ rfl;refine⟨_,_,_,{state:=.ready,pending:=none,fn,tmps:=a.tmps,params:=ps,assign:=x,body:=y,defers:=r₀.defers},run_enterLoop_inner hr fn a.tmps ps x y,?_,rfl,rfl,rfl,rfl,rfl,rfl,Nat.le_refl _,(gE.refl B w).alloc h.base _,λk hk=>Below.heap_alloc _ _ _ hk,Marks.of_eq (by simp)⟩
  exact World.alloc_heap_new w _
end Go.Proofs.YtjgmnoaalbbonaaGreatA.Am
end
