/- What leads to the law, part 4. Conditions: each lemma's own. -/
import Derived.Test.YtladifkbefehdaaGreatKMEM3
set_option linter.unusedVariables false
set_option linter.unusedSimpArgs false
namespace Go.Proofs.YtladifkbefehdaaGreat
open Go.RowKit
theorem nS (z:Array Value) (n:Nat):(Builtin.zeroCells z n).toList.length=n*z.size:=by rw [Array.length_toList,size_zeroCells]
theorem bg {w:World} {g:Nat} {o:Obj} (h:w.heap[g]? = some o):g<w.heap.size:=(Array.getElem?_eq_some_iff.1 h).1
theorem cR:(Tryz.prog.info? 82).map (·.size)=some 4:=by kernel_rfl
theorem FR:(Tryz.prog.info? 82).map (fun i=>(i.zero,i.size,i.bytes))=some (some (.agg #[.int .i64 0,.int .i64 0,.int .i64 0,.int .i64 0]),4,32):=by kernel_rfl
set_option maxRecDepth 100000 in
set_option maxHeartbeats 1000000 in
theorem uD {w:World} {n c vc:Nat} {A:Option Addr} {B:Option Addr} {φ:Value->World->Prop} (happ:∀ (F:Fr) (x y:Operand) (ty:TypeId),ev F x=some (.slice A n c)->ev F y=some (.slice B 1 vc)->∃ v2 w2,aT Tryz.prog 95 F w (.call { callee:=.builtin .append,args:=#[x,y],argTypes:=#[39,39] }) ty v2 w2/\φ v2 w2) :
  jm Tryz.prog 64 [.slice A n c,.int .i64 (n:Int),.slice B 1 vc].toArray w φ:=by
 refine jm.enter Tryz.func64 rfl rfl rfl rfl ?_
 refine WC.seq ?_
 refine WC.region ?_
 refine WO.v (R.assign rfl) rfl ?_
 refine WO.nil ?_
 refine WX.next ?_
 refine WC.seq ?_
 refine WC.region ?_
 refine WO.v (R.move rfl) rfl ?_
 refine WO.v (R.move rfl) rfl ?_
 refine WO.v (R.cK rfl rfl Tryz.underlying39 cR rfl (by omega)) rfl ?_
 refine WO.nil ?_
 refine WX.next ?_
 refine WC.seq ?_
 refine WC.region ?_
 refine WO.v (R.move rfl) rfl ?_
 refine WO.v (R.len rfl Tryz.underlying39) rfl ?_
 refine WO.v (R.assign rfl) rfl ?_
 refine WO.nil ?_
 refine WX.next ?_
 refine WC.seq ?_
 refine WC.seq ?_
 refine WC.region ?_
 refine WO.v (R.move rfl) rfl ?_
 refine WO.v (R.eql rfl rfl) rfl ?_
 refine WO.nil ?_
 refine WX.next ?_
 refine WC.cond rfl (fun q=>absurd (of_decide_eq_true q) (by omega)) (fun _=>?_)
 refine WC.skip ?_
 refine WX.next ?_
 refine WC.seq ?_
 refine WC.region ?_
 refine WO.v (R.move rfl) rfl ?_
 refine WO.v (R.len rfl Tryz.underlying39) rfl ?_
 refine WO.v (R.assign rfl) rfl ?_
 refine WO.nil ?_
 refine WX.next ?_
 refine WC.seq ?_
 refine WC.seq ?_
 refine WC.region ?_
 refine WO.v (R.move rfl) rfl ?_
 refine WO.v (R.move rfl) rfl ?_
 refine WO.v (R.eql rfl rfl) rfl ?_
 refine WO.nil ?_
 refine WX.next ?_
 refine WC.cond rfl (fun _=>?_) (fun q=>absurd rfl (of_decide_eq_false q))
 refine WC.seq ?_
 refine WC.region ?_
 refine WO.v (R.move rfl) rfl ?_
 refine WO.v (R.move rfl) rfl ?_
 refine WO.ve (happ _ _ _ _ rfl rfl) rfl fun v2 w2 hv2=>?_
 refine WO.v (R.assign rfl) rfl ?_
 refine WO.nil ?_
 refine WX.next ?_
 refine WC.ret ?_
 refine WX.iW ?_
 refine WX.wM rfl rfl ?_
 exact hv2
set_option maxRecDepth 100000 in
set_option maxHeartbeats 1000000 in
theorem qZ {w W1:World} {g b n i c vc G:Nat} {ad:Addr} {cur vs ds:List Value} (hi:i<n) (hnc:n<=c) (hc:c<n+1) (hcm:c<=maxLen) (hG:n+1<=G) (hGm:G<=maxLen)
  (happ:∀ (F:Fr) (x y:Operand) (ty:TypeId),ev F x=some (.slice (some ⟨g,0*4,none⟩) i c)->ev F y=some (.int .i64 ((n+1 - i:Nat):Int))->aT Tryz.prog 95 F w (.call { callee:=.builtin .append,args:=#[x,y],argTypes:=#[39,3] }) ty (.slice (some ⟨b,0,none⟩) (n+1) G) W1)
  (hrow:W1.heap[b]? = some (.cells cur.toArray 82 (0,0))) (hcur:(n+1)*4<=cur.length) (hv:CellsAt W1 ad vs) (hvl:vs.length=4) (hd:CellsAt W1 ⟨g,i*4,none⟩ ds) (hgb:g≠b) (hgl:g<W1.heap.size) (hdl:ds.length=(n - i)*4)
  (h1v:∀ u ∈ vs,u.oneCell' = true) (h1d:∀ u ∈ ds,u.oneCell' = true) :
  jm Tryz.prog 64 [.slice (some ⟨g,0,none⟩) n c,.int .i64 (i:Int),.slice (some ad) 1 vc].toArray w fun v w'=>v = .slice (some ⟨b,0,none⟩) (n+1) G/\∃ w1,Kp [] (W1.setRow b (cur.take (i*4)++vs++cur.drop (i*4+vs.length)).toArray) w1/\w' = w1.setRow b ((cur.take (i*4)++vs++cur.drop (i*4+vs.length)).take ((i+1)*4)++ds++(cur.take (i*4)++vs++cur.drop (i*4+vs.length)).drop ((i+1)*4+ds.length)).toArray:=by
 have hGm:G<=9223372036854775807:=hGm
 have hcm:c<=9223372036854775807:=hcm
 have hn1:vs.length=Nat.min 1 (n+1 - i)*4:=by rw [show Nat.min 1 (n+1 - i)=1 from Nat.min_eq_left (by omega),Nat.one_mul]; exact hvl
 have hn2:ds.length=Nat.min (n - i) (n+1 - (i+1))*4:=by rw [show Nat.min (n - i) (n+1 - (i+1))=n - i from Nat.min_eq_left (by omega)]; exact hdl
 refine jm.enter Tryz.func64 rfl rfl rfl rfl ?_
 refine WC.seq ?_
 refine WC.region ?_
 refine WO.v (R.assign rfl) rfl ?_
 refine WO.nil ?_
 refine WX.next ?_
 refine WC.seq ?_
 refine WC.region ?_
 refine WO.v (R.move rfl) rfl ?_
 refine WO.v (R.move rfl) rfl ?_
 refine WO.v (R.cK rfl rfl Tryz.underlying39 cR rfl (by omega)) rfl ?_
 refine WO.nil ?_
 refine WX.next ?_
 refine WC.seq ?_
 refine WC.region ?_
 refine WO.v (R.move rfl) rfl ?_
 refine WO.v (R.len rfl Tryz.underlying39) rfl ?_
 refine WO.v (R.assign rfl) rfl ?_
 refine WO.nil ?_
 refine WX.next ?_
 refine WC.seq ?_
 refine WC.seq ?_
 refine WC.region ?_
 refine WO.v (R.move rfl) rfl ?_
 refine WO.v (R.eql rfl rfl) rfl ?_
 refine WO.nil ?_
 refine WX.next ?_
 refine WC.cond rfl (fun q=>absurd (of_decide_eq_true q) (by omega)) (fun _=>?_)
 refine WC.skip ?_
 refine WX.next ?_
 refine WC.seq ?_
 refine WC.region ?_
 refine WO.v (R.move rfl) rfl ?_
 refine WO.v (R.len rfl Tryz.underlying39) rfl ?_
 refine WO.v (R.assign rfl) rfl ?_
 refine WO.nil ?_
 refine WX.next ?_
 refine WC.seq ?_
 refine WC.seq ?_
 refine WC.region ?_
 refine WO.v (R.move rfl) rfl ?_
 refine WO.v (R.move rfl) rfl ?_
 refine WO.v (R.eql rfl rfl) rfl ?_
 refine WO.nil ?_
 refine WX.next ?_
 refine WC.cond rfl (fun q=>absurd (of_decide_eq_true q) (by omega)) (fun _=>?_)
 refine WC.skip ?_
 refine WX.next ?_
 refine WC.seq ?_
 refine WC.seq ?_
 refine WC.region ?_
 refine WO.v (R.move rfl) rfl ?_
 refine WO.v (R.move rfl) rfl ?_
 refine WO.v (R.lq rfl rfl (by omega)) rfl ?_
 refine WO.v (R.move rfl) rfl ?_
 refine WO.v (R.GV rfl Tryz.underlying39) rfl ?_
 refine WO.v (R.gtr rfl rfl) rfl ?_
 refine WO.nil ?_
 refine WX.next ?_
 refine WC.cond rfl (fun _=>?_) (fun q=>absurd (by omega) (of_decide_eq_false q))
 refine WC.seq ?_
 refine WC.region ?_
 refine WO.v (R.move rfl) rfl ?_
 refine WO.v (R.move rfl) rfl ?_
 refine WO.v (R.lN rfl rfl Tryz.underlying39 cR (dX (i:=0) (by omega)) (by omega)) rfl ?_
 refine WO.v (R.move rfl) rfl ?_
 refine WO.v (R.move rfl) rfl ?_
 refine WO.v (R.lq rfl rfl (by omega)) rfl ?_
 refine WO.v (R.move rfl) rfl ?_
 refine WO.v (R.Qq rfl rfl (by omega) (by omega)) rfl ?_
 refine WO.v (happ _ _ _ _ rfl rfl) rfl ?_
 refine WO.v (R.assign rfl) rfl ?_
 refine WO.nil ?_
 refine WX.next ?_
 refine WC.seq ?_
 refine WC.region ?_
 refine WO.v (R.move rfl) rfl ?_
 refine WO.v (R.move rfl) rfl ?_
 refine WO.v (R.cK rfl rfl Tryz.underlying39 cR (dX (by omega)) (by omega)) rfl ?_
 refine WO.v (R.move rfl) rfl ?_
 refine WO.v (R.mY rfl rfl Tryz.underlying39 cR hrow hn1 hv (by omega) h1v) rfl ?_
 refine WO.nil ?_
 refine WX.next ?_
 refine WC.seq ?_
 refine WC.qN iK [.ex [] (.slice (some ⟨b,0,none⟩) (n+1) G),.ex [] (.int .i64 ((i:Nat):Int)),.ex [] (.int .i64 ((1:Nat):Int)),.ex [1,2] (.int .i64 ((i+1:Nat):Int)),.ex [0,3] (.slice (some ⟨b,(i+1)*4,none⟩) (n+1 - (i+1)) (G - (i+1))),.ex [] (.slice (some ⟨g,0,none⟩) n c),.ex [] (.int .i64 ((i:Nat):Int)),.ex [5,6] (.slice (some ⟨g,i*4,none⟩) (n - i) (c - i))] 8 (by kernel_rfl) ⟨fun _ _ _ h _=>h,fun _ _ _ h _=>h,fun _ _ _ h _=>h,fun _ _ _ h _=>h,fun _ _ _ h _=>h,fun _ _ _ h _=>h,fun _ _ _ h _=>h,fun _ _ _ h _=>h,trivial⟩ ⟨?_,?_,?_,?_,?_,?_,?_,?_,trivial⟩ ?_
 ·rintro vs wd kd ⟨-⟩
  refine WO.bJ (fr':=[(9,.slice (some ⟨b,0,none⟩) (n+1) G)]) ⟨⟨_,rfl,rfl⟩,trivial⟩ ?_
  refine WO.v (R.move rfl) rfl ?_
  refine WO.nil ?_
  exact WX.aP rfl rfl (Kp.refl _)
 ·rintro vs wd kd ⟨-⟩
  refine WO.bJ (fr':=[(1,.int .i64 ((i:Nat):Int))]) ⟨⟨_,rfl,rfl⟩,trivial⟩ ?_
  refine WO.v (R.move rfl) rfl ?_
  refine WO.nil ?_
  exact WX.aP rfl rfl (Kp.refl _)
 ·rintro vs wd kd ⟨-⟩
  refine WO.bJ (fr':=[(7,.int .i64 ((1:Nat):Int))]) ⟨⟨_,rfl,rfl⟩,trivial⟩ ?_
  refine WO.v (R.move rfl) rfl ?_
  refine WO.nil ?_
  exact WX.aP rfl rfl (Kp.refl _)
 ·rintro vs wd kd ⟨e1,e2,-⟩
  refine WO.bJ (fr':=[(47,.int .i64 ((i:Nat):Int)),(48,.int .i64 ((1:Nat):Int))]) ⟨⟨_,rfl,e1⟩,⟨_,rfl,e2⟩,trivial⟩ ?_
  refine WO.v (R.lq rfl rfl (by omega)) rfl ?_
  refine WO.nil ?_
  exact WX.aP rfl rfl (Kp.refl _)
 ·rintro vs wd kd ⟨e0,e3,-⟩
  refine WO.bJ (fr':=[(46,.slice (some ⟨b,0,none⟩) (n+1) G),(49,.int .i64 ((i+1:Nat):Int))]) ⟨⟨_,rfl,e0⟩,⟨_,rfl,e3⟩,trivial⟩ ?_
  refine WO.v (R.cK rfl rfl Tryz.underlying39 cR (dX (by omega)) (by omega)) rfl ?_
  refine WO.nil ?_
  exact WX.aP rfl rfl (Kp.refl _)
 ·rintro vs wd kd ⟨-⟩
  refine WO.bJ (fr':=[(0,.slice (some ⟨g,0,none⟩) n c)]) ⟨⟨_,rfl,rfl⟩,trivial⟩ ?_
  refine WO.v (R.move rfl) rfl ?_
  refine WO.nil ?_
  exact WX.aP rfl rfl (Kp.refl _)
 ·rintro vs wd kd ⟨-⟩
  refine WO.bJ (fr':=[(1,.int .i64 ((i:Nat):Int))]) ⟨⟨_,rfl,rfl⟩,trivial⟩ ?_
  refine WO.v (R.move rfl) rfl ?_
  refine WO.nil ?_
  exact WX.aP rfl rfl (Kp.refl _)
 ·rintro vs wd kd ⟨e5,e6,-⟩
  refine WO.bJ (fr':=[(51,.slice (some ⟨g,0,none⟩) n c),(52,.int .i64 ((i:Nat):Int))]) ⟨⟨_,rfl,e5⟩,⟨_,rfl,e6⟩,trivial⟩ ?_
  refine WO.v (R.cK rfl rfl Tryz.underlying39 cR (dX (by omega)) (by omega)) rfl ?_
  refine WO.nil ?_
  exact WX.aP rfl rfl (Kp.refl _)
 rintro vsx w1 k1 ⟨-,-,-,-,e4,-,-,e7,-⟩
 replace k1:Kp [] (W1.setRow b (cur.take (i*4)++vs++cur.drop (i*4+vs.length)).toArray) w1:=k1
 refine WO.bJ (fr':=[(50,.slice (some ⟨b,(i+1)*4,none⟩) (n+1 - (i+1)) (G - (i+1))),(53,.slice (some ⟨g,i*4,none⟩) (n - i) (c - i)),(9,.slice (some ⟨b,0,none⟩) (n+1) G)]) ⟨⟨_,rfl,e4⟩,⟨_,rfl,e7⟩,⟨_,rfl,rfl⟩,trivial⟩ ?_
 have hb2:w1.heap[b]? = some (.cells (List.toArray (cur.take (i*4)++vs++cur.drop (i*4+vs.length))) 82 (0,0)):=by rw [k1.block b (by simpa using bg hrow) (by simp)]; exact setRow_heap W1 b _ _ 82 _ hrow
 have hd2:CellsAt w1 ⟨g,i*4,none⟩ ds:=(hd.kp (Kp.setRow W1 b _) hgl (by simpa using hgb.symm)).kp k1 (by simpa using hgl) (by simp)
 refine WO.v (R.mY rfl rfl Tryz.underlying39 cR hb2 hn2 hd2 (by simp only [List.length_append,List.length_take,List.length_drop]; omega) h1d) rfl ?_
 refine WO.nil ?_
 refine WX.next ?_
 refine WC.seq ?_
 refine WC.region ?_
 refine WO.v (R.move rfl) rfl ?_
 refine WO.v (R.assign rfl) rfl ?_
 refine WO.nil ?_
 refine WX.next ?_
 refine WC.ret ?_
 refine WX.iW ?_
 refine WX.wM rfl rfl ?_
 exact ⟨rfl,w1,k1,rfl⟩
set_option maxRecDepth 100000 in
set_option maxHeartbeats 1000000 in
theorem pV {w:World} {g n i c vc:Nat} {ad:Addr} {cur vs ds:List Value} {curA:Array Value} {tA:TypeId} {fA:Nat × Nat} (hi:i<n) (hc:n+1<=c) (hcm:c<=maxLen)
  (hrow:w.heap[g]? = some (.cells cur.toArray 82 (0,0))) (hcur:(n+1)*4<=cur.length) (hv:CellsAt w ad vs) (hvb:w.heap[ad.block]? = some (.cells curA tA fA)) (hvb0:curA.size≠0) (hne:ad.block≠g) (hvl:vs.length=4) (hd:CellsAt w ⟨g,i*4,none⟩ ds) (hdl:ds.length=(n - i)*4)
  (h1v:∀ u ∈ vs,u.oneCell' = true) (h1d:∀ u ∈ ds,u.oneCell' = true) :
  jm Tryz.prog 64 [.slice (some ⟨g,0,none⟩) n c,.int .i64 (i:Int),.slice (some ad) 1 vc].toArray w fun v w'=>v = .slice (some ⟨g,0,none⟩) (n+1) c/\∃ w1,Kp [] w w1/\w' = (w1.setRow g (cur.take ((i+1)*4)++ds++cur.drop ((i+1)*4+ds.length)).toArray).setRow g ((cur.take ((i+1)*4)++ds++cur.drop ((i+1)*4+ds.length)).take (i*4)++vs++(cur.take ((i+1)*4)++ds++cur.drop ((i+1)*4+ds.length)).drop (i*4+vs.length)).toArray:=by
 have hcm:c<=9223372036854775807:=hcm
 have hn1:vs.length=Nat.min 1 (n+1 - i)*4:=by rw [show Nat.min 1 (n+1 - i)=1 from Nat.min_eq_left (by omega),Nat.one_mul]; exact hvl
 have hn2:ds.length=Nat.min (n+1 - i) (n+1 - (i+1))*4:=by rw [show Nat.min (n+1 - i) (n+1 - (i+1))=n+1 - (i+1) from Nat.min_eq_right (by omega),hdl]; congr 1; omega
 refine jm.enter Tryz.func64 rfl rfl rfl rfl ?_
 refine WC.seq ?_
 refine WC.region ?_
 refine WO.v (R.assign rfl) rfl ?_
 refine WO.nil ?_
 refine WX.next ?_
 refine WC.seq ?_
 refine WC.region ?_
 refine WO.v (R.move rfl) rfl ?_
 refine WO.v (R.move rfl) rfl ?_
 refine WO.v (R.cK rfl rfl Tryz.underlying39 cR rfl (by omega)) rfl ?_
 refine WO.nil ?_
 refine WX.next ?_
 refine WC.seq ?_
 refine WC.region ?_
 refine WO.v (R.move rfl) rfl ?_
 refine WO.v (R.len rfl Tryz.underlying39) rfl ?_
 refine WO.v (R.assign rfl) rfl ?_
 refine WO.nil ?_
 refine WX.next ?_
 refine WC.seq ?_
 refine WC.seq ?_
 refine WC.region ?_
 refine WO.v (R.move rfl) rfl ?_
 refine WO.v (R.eql rfl rfl) rfl ?_
 refine WO.nil ?_
 refine WX.next ?_
 refine WC.cond rfl (fun q=>absurd (of_decide_eq_true q) (by omega)) (fun _=>?_)
 refine WC.skip ?_
 refine WX.next ?_
 refine WC.seq ?_
 refine WC.region ?_
 refine WO.v (R.move rfl) rfl ?_
 refine WO.v (R.len rfl Tryz.underlying39) rfl ?_
 refine WO.v (R.assign rfl) rfl ?_
 refine WO.nil ?_
 refine WX.next ?_
 refine WC.seq ?_
 refine WC.seq ?_
 refine WC.region ?_
 refine WO.v (R.move rfl) rfl ?_
 refine WO.v (R.move rfl) rfl ?_
 refine WO.v (R.eql rfl rfl) rfl ?_
 refine WO.nil ?_
 refine WX.next ?_
 refine WC.cond rfl (fun q=>absurd (of_decide_eq_true q) (by omega)) (fun _=>?_)
 refine WC.skip ?_
 refine WX.next ?_
 refine WC.seq ?_
 refine WC.seq ?_
 refine WC.region ?_
 refine WO.v (R.move rfl) rfl ?_
 refine WO.v (R.move rfl) rfl ?_
 refine WO.v (R.lq rfl rfl (by omega)) rfl ?_
 refine WO.v (R.move rfl) rfl ?_
 refine WO.v (R.GV rfl Tryz.underlying39) rfl ?_
 refine WO.v (R.gtr rfl rfl) rfl ?_
 refine WO.nil ?_
 refine WX.next ?_
 refine WC.cond rfl (fun q=>absurd (of_decide_eq_true q) (by omega)) (fun _=>?_)
 refine WC.skip ?_
 refine WX.next ?_
 refine WC.seq ?_
 refine WC.region ?_
 refine WO.v (R.move rfl) rfl ?_
 refine WO.v (R.move rfl) rfl ?_
 refine WO.v (R.move rfl) rfl ?_
 refine WO.v (R.lq rfl rfl (by omega)) rfl ?_
 refine WO.v (R.lN rfl rfl Tryz.underlying39 cR (dX (i:=0) (by omega)) (by omega)) rfl ?_
 refine WO.v (R.assign rfl) rfl ?_
 refine WO.nil ?_
 refine WX.next ?_
 refine WC.seq ?_
 refine WC.seq ?_
 refine WC.region ?_
 refine WO.v (R.move rfl) rfl ?_
 refine WO.v (R.move rfl) rfl ?_
 refine WO.v (R.move rfl) rfl ?_
 refine WO.v (R.move rfl) rfl ?_
 refine WO.v (R.lq rfl rfl (by omega)) rfl ?_
 refine WO.v (R.cK rfl rfl Tryz.underlying39 cR (dX (by omega)) (by omega)) rfl ?_
 refine WO.v (R.SE (tS:=39) (tR:=4) Tryz.func101 rfl rfl (by kernel_rfl) (by kernel_rfl) Tryz.underlying39 cR hne hvb hvb0 hrow rfl rfl) rfl ?_
 refine WO.v (R.not rfl) rfl ?_
 refine WO.nil ?_
 refine WX.next ?_
 refine WC.Fo rfl ?_
 refine WC.seq ?_
 refine WC.qN iK [.ex [] (.slice (some ⟨g,0,none⟩) (n+1) c),.ex [] (.int .i64 ((i:Nat):Int)),.ex [] (.int .i64 ((1:Nat):Int)),.ex [1,2] (.int .i64 ((i+1:Nat):Int)),.ex [0,3] (.slice (some ⟨g,(i+1)*4,none⟩) (n+1 - (i+1)) (c - (i+1))),.ex [] (.slice (some ⟨g,0,none⟩) (n+1) c),.ex [] (.int .i64 ((i:Nat):Int)),.ex [5,6] (.slice (some ⟨g,i*4,none⟩) (n+1 - i) (c - i))] 8 (by kernel_rfl) ⟨fun _ _ _ h _=>h,fun _ _ _ h _=>h,fun _ _ _ h _=>h,fun _ _ _ h _=>h,fun _ _ _ h _=>h,fun _ _ _ h _=>h,fun _ _ _ h _=>h,fun _ _ _ h _=>h,trivial⟩ ⟨?_,?_,?_,?_,?_,?_,?_,?_,trivial⟩ ?_
 ·rintro vs wd kd ⟨-⟩
  refine WO.bJ (fr':=[(0,.slice (some ⟨g,0,none⟩) (n+1) c)]) ⟨⟨_,rfl,rfl⟩,trivial⟩ ?_
  refine WO.v (R.move rfl) rfl ?_
  refine WO.nil ?_
  exact WX.aP rfl rfl (Kp.refl _)
 ·rintro vs wd kd ⟨-⟩
  refine WO.bJ (fr':=[(1,.int .i64 ((i:Nat):Int))]) ⟨⟨_,rfl,rfl⟩,trivial⟩ ?_
  refine WO.v (R.move rfl) rfl ?_
  refine WO.nil ?_
  exact WX.aP rfl rfl (Kp.refl _)
 ·rintro vs wd kd ⟨-⟩
  refine WO.bJ (fr':=[(7,.int .i64 ((1:Nat):Int))]) ⟨⟨_,rfl,rfl⟩,trivial⟩ ?_
  refine WO.v (R.move rfl) rfl ?_
  refine WO.nil ?_
  exact WX.aP rfl rfl (Kp.refl _)
 ·rintro vs wd kd ⟨e1,e2,-⟩
  refine WO.bJ (fr':=[(70,.int .i64 ((i:Nat):Int)),(71,.int .i64 ((1:Nat):Int))]) ⟨⟨_,rfl,e1⟩,⟨_,rfl,e2⟩,trivial⟩ ?_
  refine WO.v (R.lq rfl rfl (by omega)) rfl ?_
  refine WO.nil ?_
  exact WX.aP rfl rfl (Kp.refl _)
 ·rintro vs wd kd ⟨e0,e3,-⟩
  refine WO.bJ (fr':=[(69,.slice (some ⟨g,0,none⟩) (n+1) c),(72,.int .i64 ((i+1:Nat):Int))]) ⟨⟨_,rfl,e0⟩,⟨_,rfl,e3⟩,trivial⟩ ?_
  refine WO.v (R.cK rfl rfl Tryz.underlying39 cR (dX (by omega)) (by omega)) rfl ?_
  refine WO.nil ?_
  exact WX.aP rfl rfl (Kp.refl _)
 ·rintro vs wd kd ⟨-⟩
  refine WO.bJ (fr':=[(0,.slice (some ⟨g,0,none⟩) (n+1) c)]) ⟨⟨_,rfl,rfl⟩,trivial⟩ ?_
  refine WO.v (R.move rfl) rfl ?_
  refine WO.nil ?_
  exact WX.aP rfl rfl (Kp.refl _)
 ·rintro vs wd kd ⟨-⟩
  refine WO.bJ (fr':=[(1,.int .i64 ((i:Nat):Int))]) ⟨⟨_,rfl,rfl⟩,trivial⟩ ?_
  refine WO.v (R.move rfl) rfl ?_
  refine WO.nil ?_
  exact WX.aP rfl rfl (Kp.refl _)
 ·rintro vs wd kd ⟨e5,e6,-⟩
  refine WO.bJ (fr':=[(74,.slice (some ⟨g,0,none⟩) (n+1) c),(75,.int .i64 ((i:Nat):Int))]) ⟨⟨_,rfl,e5⟩,⟨_,rfl,e6⟩,trivial⟩ ?_
  refine WO.v (R.cK rfl rfl Tryz.underlying39 cR (dX (by omega)) (by omega)) rfl ?_
  refine WO.nil ?_
  exact WX.aP rfl rfl (Kp.refl _)
 rintro vsx w1 k1 ⟨-,-,-,-,e4,-,-,e7,-⟩
 replace k1:Kp [] w w1:=k1
 refine WO.bJ (fr':=[(73,.slice (some ⟨g,(i+1)*4,none⟩) (n+1 - (i+1)) (c - (i+1))),(76,.slice (some ⟨g,i*4,none⟩) (n+1 - i) (c - i)),(0,.slice (some ⟨g,0,none⟩) (n+1) c),(1,.int .i64 ((i:Nat):Int)),(2,.slice (some ad) 1 vc)]) ⟨⟨_,rfl,e4⟩,⟨_,rfl,e7⟩,⟨_,rfl,rfl⟩,⟨_,rfl,rfl⟩,⟨_,rfl,rfl⟩,trivial⟩ ?_
 have hg1:w1.heap[g]? = some (.cells (List.toArray cur) 82 (0,0)):=by rw [k1.block g (bg hrow) (by simp)]; exact hrow
 refine WO.v (R.mY rfl rfl Tryz.underlying39 cR hg1 hn2 (hd.kp k1 (bg hrow) (by simp)) (by omega) h1d) rfl ?_
 refine WO.nil ?_
 refine WX.next ?_
 have hg2:(w1.setRow g (cur.take ((i+1)*4)++ds++cur.drop ((i+1)*4+ds.length)).toArray).heap[g]? = some (.cells (List.toArray (cur.take ((i+1)*4)++ds++cur.drop ((i+1)*4+ds.length))) 82 (0,0)):=setRow_heap w1 g _ _ 82 _ hg1
 have hv2:CellsAt (w1.setRow g (cur.take ((i+1)*4)++ds++cur.drop ((i+1)*4+ds.length)).toArray) ad vs:=(hv.kp k1 (bg hvb) (by simp)).kp (Kp.setRow w1 g _) (Nat.lt_of_lt_of_le (bg hvb) k1.size) (by simpa using fun h=>hne h.symm)
 refine WC.seq ?_
 refine WC.region ?_
 refine WO.v (R.move rfl) rfl ?_
 refine WO.v (R.move rfl) rfl ?_
 refine WO.v (R.cK rfl rfl Tryz.underlying39 cR (dX (by omega)) (by omega)) rfl ?_
 refine WO.v (R.move rfl) rfl ?_
 refine WO.v (R.mY rfl rfl Tryz.underlying39 cR hg2 hn1 hv2 (by simp only [List.length_append,List.length_take,List.length_drop]; omega) h1v) rfl ?_
 refine WO.nil ?_
 refine WX.next ?_
 refine WC.seq ?_
 refine WC.region ?_
 refine WO.v (R.move rfl) rfl ?_
 refine WO.v (R.assign rfl) rfl ?_
 refine WO.nil ?_
 refine WX.next ?_
 refine WC.ret ?_
 refine WX.iW ?_
 refine WX.wM rfl rfl ?_
 exact ⟨rfl,w1,k1,rfl⟩
theorem tg {G:Gl} {ρ:List RE} {H:AH} {w:World} (hs:G.shp=ao aF) (hR:Rep G ρ H w) {l m:List (den (.nm .sess))} (hH:getO H 0 = .row 82 (.nm .sess) l) (hl:l.length<1048576) {i:Nat} (hi:i<=l.length) {v0:Value} (h0:Rd (cx G ρ w) ρ (.own 0) v0)
  {ad:Addr} {k:Nat} {cys:List Value} {bAV:AV} (hm:m.length=1) (hb:Rd (cx G ρ w) ρ bAV (.slice (some ad) 1 k)) (hbv:(bAV.vw H).gj (.nm .sess)=some m) (hv:CellsAt w ad cys) (hvl:cys.length=4) (h1v:∀ u ∈ cys,u.oneCell' = true) (hp:Pds (cx G ρ w) (m.flatMap (cellsOf (.nm .sess))) cys)
  (hne:∀ g c n z,ρ[0]? = some (.row g c n z)->ad.block≠g) {curA:Array Value} {tA:TypeId} {fA:Nat × Nat} (hvb:w.heap[ad.block]? = some (.cells curA tA fA)) (hvb0:curA.size≠0) :
  jm Tryz.prog 64 [v0,.int .i64 (i:Int),.slice (some ad) 1 k].toArray w fun v w'=>∃ ρ',Stp (AE 0) ρ w ρ' w' /\ Rep G ρ' ((fK (AV.kill 0) H).set 0 (.row 82 (.nm .sess) (l.take i++m++l.drop i))) w' /\ Rd (cx G ρ' w') ρ' (.own 0) v:=by
 have hT:bF Tryz.prog G.shp aF:=hs ▸ iE
 obtain ⟨hshp,hlen⟩:=dK hR hH
 have hl64:l.length<=9223372036854775807:=by omega
 have hin:((l.length:Nat):Int)<=9223372036854775807:=by omega
 by_cases hie:i=l.length
 ·subst hie
  have hc:∃ A c,v0 = .slice A l.length c:=by
   rcases h0 with ⟨g,cap,len,z,h1,rfl⟩ | ⟨h1,a,rfl⟩
   ·rcases bK hR hH with ⟨h2,_⟩ | ⟨g',cap',cells,sp,h2,_⟩
    ·rw [h1] at h2; cases h2
    ·rw [h1] at h2; cases h2; exact ⟨_,_,rfl⟩
   ·rcases bK hR hH with ⟨_,h2⟩ | ⟨g',cap',cells,sp,h2,_⟩
    ·subst h2; exact ⟨_,_,rfl⟩
    ·rw [h1] at h2; cases h2
  obtain ⟨A,c,rfl⟩:=hc
  refine uD fun F x y ty hx hy=>?_
  have happ:gI aF (AE 0) ([]:AFr) H 39 (.own 0) bAV=some ⟨one (.own 0),[],(fK (AV.kill 0) H).set 0 (.row 82 (.nm .sess) (l++m)),[(l.length+m.length)*(Sh.nm NT.sess).bytes<=140737488355328],[]⟩:=by
   unfold gI
   rw [show bI aF 39=some ⟨.sl 82 (some (.nm .sess)),1,[.em true]⟩ from by kernel_rfl]
   simp only [hbv,hH]
   rfl
  obtain ⟨v,w',h1,ρ',h2,h3,_,h5,_⟩:=g_ (P:=Tryz.prog) (n:=95) (F:=[]) (ty:=ty) (fr:=[]) (x:=.const (.slice A l.length c)) (y:=.const (.slice (some ad) 1 k)) hT hR .nil happ (by
   intro p hp
   rw [List.mem_singleton] at hp; subst hp
   show (l.length+m.length)*32<=_
   omega) h0 hb rfl rfl
  refine ⟨v,w',R.yq h1 hx hy,ρ',h2,?_,h5⟩
  rw [List.take_length,List.drop_length,List.append_nil]
  exact h3
 ·have hlt:i<l.length:=by omega
  rcases bK hR hH with ⟨_,h2⟩ | ⟨g,cap,cells,sp,hρ,hg,hpd,hsz,hcap,hmax⟩
  ·subst h2; simp at hlt
  obtain ⟨hnb,hil,hiH⟩:=mF hR hH
  have hv0:v0 = .slice (some ⟨g,0,none⟩) l.length cap:=by
   rcases h0 with ⟨g',cap',len,z,h1,rfl⟩ | ⟨h1,a,rfl⟩
   ·rw [hρ] at h1; cases h1; rfl
   ·rw [hρ] at h1; cases h1
  subst hv0
  have hz:(Sh.nm NT.sess).size=4:=rfl
  have hby:(Sh.nm NT.sess).bytes=32:=rfl
  have hcl:cells.length=l.length*4:=by rw [<- hpd.length,b_,hz]
  rw [hz,List.length_append] at hsz
  have hone:∀ u ∈ cells.drop (i*4),u.oneCell' = true:=fun u hu=>hpd.Dy u (List.mem_of_mem_drop hu)
  have hd:CellsAt w ⟨g,i*4,none⟩ (cells.drop (i*4)):=by
   have:=(cC hg).shift (i*4)
   rwa [add_lit,Nat.zero_add] at this
  have hdl:(cells.drop (i*4)).length=(l.length - i)*4:=by rw [List.length_drop,hcl]; omega
  have hgl:=bg hg
  have hzl:(l.take i++m++l.drop i).length=l.length+1:=by
   rw [List.length_append,List.length_append,List.length_take,List.length_drop,hm]; omega
  have hnew:∀ {c:Cx},(cx G ρ w).le c->Pds c ((l.take i++m++l.drop i).flatMap (cellsOf (.nm .sess))) (cells.take (i*4)++cys++cells.drop (i*4)):=fun {c} hle=>by
   rw [List.flatMap_append,List.flatMap_append]
   exact (((bW hpd i).append hp).append (cm hpd i)).carry hle
  have hnl:(cells.take (i*4)++cys++cells.drop (i*4)).length=(l.length+1)*4:=by
   rw [List.length_append,List.length_append,List.length_take,List.length_drop,hcl,hvl]; omega
  have hbig:(l.take i++m++l.drop i).length*(Sh.nm NT.sess).bytes<=140737488355328:=by rw [hzl,hby]; omega
  -- what is shown of any way
  have fin:∀ (S:List Nat) (g2 cap2:Nat) (sp2:List Value) (w':World),Kp S w w' -> (∀ b ∈ S,b=g)->(g2=g\/w.heap.size<=g2)->w'.heap[g2]? = some (.cells (List.toArray (cells.take (i*4)++cys++cells.drop (i*4)++sp2)) 82 (0,0))->(l.length+1)*4+sp2.length=cap2*4->l.length+1<=cap2->cap2<=maxLen ->
    ∃ ρ',Stp (AE 0) ρ w ρ' w' /\ Rep G ρ' ((fK (AV.kill 0) H).set 0 (.row 82 (.nm .sess) (l.take i++m++l.drop i))) w' /\ Rd (cx G ρ' w') ρ' (.own 0) (.slice (some ⟨g2,0,none⟩) (l.length+1) cap2):=by
   intro S g2 cap2 sp2 w' hk hS hg2 hh hlen2 hle2 hmax2
   obtain ⟨k1,k2,_⟩:=kU (ro:=AE 0) (s':=.nm .sess) (e':=82) (zs:=l.take i++m++l.drop i) hR hH ⟨rfl,rfl⟩ hk (fun b hb=>⟨_,hρ,by rw [hS b hb]; rfl⟩) (r':=.row g2 cap2 (l.take i++m++l.drop i).length (Sh.nm NT.sess).size) (fun b hb=>by
    cases hb
    rcases hg2 with rfl | hg2
    ·exact .inl ⟨_,hρ,rfl⟩
    ·exact .inr ⟨hg2,bg hh⟩) (fun hle=>⟨hshp,hbig,.inr ⟨g2,cap2,_,sp2,rfl,hh,hnew hle,by rw [List.length_append,hnl,hz]; exact hlen2,by rw [hzl]; exact hle2,hmax2⟩⟩)
   exact ⟨_,k1,k2,.inl ⟨g2,cap2,_,_,List.getElem?_set_self hil,by rw [hzl]⟩⟩
  have eo:(i+1)*4=i*4+4:=by omega
  by_cases hroom:l.length+1<=cap
  ·refine (pV hlt hroom hmax hg (by rw [List.length_append]; omega) hv hvb hvb0 (hne _ _ _ _ hρ) hvl hd hdl h1v hone).mono fun v w' ⟨e1,w1,k1,e2⟩=>?_
   subst e1; subst e2
   rw [eo,KO (by omega) hvl]
   have hk:Kp [g] w ((w1.setRow g ((cells++sp).take (i*4+4)++cells.drop (i*4)++(cells++sp).drop (i*4+4+(cells.drop (i*4)).length)).toArray).setRow g (cells.take (i*4)++cys++cells.drop (i*4)++sp.drop 4).toArray):=((k1.sub (by simp)).step (Kp.setRow w1 g _) (by simp)).step (Kp.setRow _ g _) (by simp)
   have hg1:w1.heap[g]? = some (.cells (List.toArray (cells++sp)) 82 (0,0)):=by rw [k1.block g hgl (by simp)]; exact hg
   exact fin [g] g cap (sp.drop 4) _ hk (by simp) (.inl rfl) (setRow_heap _ g _ _ 82 _ (setRow_heap w1 g _ _ 82 _ hg1)) (by rw [List.length_drop]; omega) hroom hmax
  ·obtain ⟨ti,hi0,hz0,hz1,hz2⟩:=info_parts FR
   have eik:i+(l.length+1 - i)=l.length+1:=by omega
   have hge:=grownCap_ge w (l.length+1) cap 82
   have hgm:=grownCap_le_maxLen w (l.length+1) cap 82 (by simp [maxLen]; omega)
   have hold:(Builtin.firstCells ti.size i (.slice (some ⟨g,0*4,none⟩) i cap)).run Tryz.prog w.drew = .ok (cells.take (i*4)).toArray w.drew:=by
    have h:=run_loadCells_list (P:=Tryz.prog) w.drew ⟨g,0*4,none⟩ (cells.take (i*4)) (by rw [Nat.zero_mul]; exact (cC hg).take _)
    rw [List.length_take,Nat.min_eq_left (by omega)] at h
    rw [hz1]; exact h
   have happ:∀ (F:Fr) (x y:Operand) (ty:TypeId),ev F x=some (.slice (some ⟨g,0*4,none⟩) i cap)->ev F y=some (.int .i64 ((l.length+1 - i:Nat):Int))->aT Tryz.prog 95 F w (.call { callee:=.builtin .append,args:=#[x,y],argTypes:=#[39,3] }) ty (.slice (some ⟨w.heap.size,0,none⟩) (l.length+1) (grownCap w (l.length+1) cap 82)) (w.drew.alloc (.cells (List.toArray (cells.take (i*4)++((Builtin.zeroCells (Value.agg #[.int .i64 0,.int .i64 0,.int .i64 0,.int .i64 0]).cells (l.length+1 - i)).toList++(Builtin.zeroCells (Value.agg #[.int .i64 0,.int .i64 0,.int .i64 0,.int .i64 0]).cells (grownCap w (l.length+1) cap 82 - (l.length+1))).toList))) 82)):=fun F x y ty hx hy=>by
    have h:=R.O_ (P:=Tryz.prog) (n:=95) (ty:=ty) hx hy Tryz.underlying39 Tryz.underlying3 hi0 hz0 hold (by omega) (by rw [hz1]; decide) (by omega) (by omega) (by rw [hz2]; omega) (by rw [hz2,eik]; exact growslice_fits (by omega) (by omega))
    rw [eik] at h
    have e:∀ (a:List Value) (b c:Array Value),a.toArray++b++c=(a++(b.toList++c.toList)).toArray:=fun a b c=>by apply Array.ext'; simp
    rw [e] at h
    exact h
   have hcurl:(cells.take (i*4)++((Builtin.zeroCells (Value.agg #[.int .i64 0,.int .i64 0,.int .i64 0,.int .i64 0]).cells (l.length+1 - i)).toList++(Builtin.zeroCells (Value.agg #[.int .i64 0,.int .i64 0,.int .i64 0,.int .i64 0]).cells (grownCap w (l.length+1) cap 82 - (l.length+1))).toList)).length=grownCap w (l.length+1) cap 82*4:=by
    rw [List.length_append,List.length_append,List.length_take,nS,nS]
    show min _ _+((l.length+1 - i)*4+(grownCap w (l.length+1) cap 82 - (l.length+1))*4)=_
    omega
   have htk:(cells.take (i*4)++((Builtin.zeroCells (Value.agg #[.int .i64 0,.int .i64 0,.int .i64 0,.int .i64 0]).cells (l.length+1 - i)).toList++(Builtin.zeroCells (Value.agg #[.int .i64 0,.int .i64 0,.int .i64 0,.int .i64 0]).cells (grownCap w (l.length+1) cap 82 - (l.length+1))).toList)).take (i*4)=cells.take (i*4):=List.take_left' (by rw [List.length_take]; omega)
   generalize grownCap w (l.length+1) cap 82=GC at *
   generalize cells.take (i*4)++((Builtin.zeroCells (Value.agg #[.int .i64 0,.int .i64 0,.int .i64 0,.int .i64 0]).cells (l.length+1 - i)).toList++(Builtin.zeroCells (Value.agg #[.int .i64 0,.int .i64 0,.int .i64 0,.int .i64 0]).cells (GC - (l.length+1))).toList)=cur at *
   have hK1:Kp [] w (w.drew.alloc (.cells (List.toArray cur) 82)):=((Kp.refl w).drew).step (Kp.alloc w.drew _) (by simp)
   have hrow:(w.drew.alloc (.cells (List.toArray cur) 82)).heap[w.heap.size]? = some (.cells (List.toArray cur) 82 (0,0)):=heap_alloc_new w.drew _
   generalize w.drew.alloc (.cells (List.toArray cur) 82)=W1 at *
   refine (qZ hlt hcap (by omega) hmax hge hgm happ hrow (by omega) (hv.kp hK1 (bg hvb) (by simp)) hvl (hd.kp hK1 hgl (by simp)) (by omega) (Nat.lt_of_lt_of_le hgl hK1.size) hdl h1v hone).mono fun v w' ⟨e1,w1,k1,e2⟩=>?_
   subst e1; subst e2
   rw [eo,Ks (cells:=cells) (by omega) hvl htk]
   have hs1:∀ b ∈ [w.heap.size],b ∈ ([]:List Nat)\/w.heap.size<=b:=fun b hb=>.inr (by rw [List.mem_singleton] at hb; omega)
   have hk:Kp [] w (w1.setRow w.heap.size (cells.take (i*4)++cys++cells.drop (i*4)++cur.drop (i*4+4+(cells.drop (i*4)).length)).toArray):=((hK1.step (Kp.setRow W1 w.heap.size _) hs1).step k1 (by simp)).step (Kp.setRow w1 w.heap.size _) hs1
   have hg1:=(k1.block w.heap.size (by simpa using bg hrow) (by simp)).trans (setRow_heap W1 w.heap.size _ (cur.take (i*4)++cys++cur.drop (i*4+cys.length)).toArray 82 _ hrow)
   exact fin [] w.heap.size GC _ _ hk (by simp) (.inr (Nat.le_refl _)) (setRow_heap w1 w.heap.size _ _ 82 _ hg1) (by rw [List.length_drop]; omega) hge hgm
theorem rF (i:Int) (l m:List (den (.nm .sess))) (h:0<=i/\i<=(l.length:Int)) (hl:l.length<1048576) (hm:m.length=1):Sat Tryz.prog (ao aF) 64 [.c (.own 0),.c (.int i),.c (.own 1)] [.row 82 (.nm .sess) l,.row 82 (.nm .sess) m] ⟨[0<=i/\i<=(l.length:Int),l.length<1048576,m.length=1],[.c (.own 0)],some [.row 82 (.nm .sess) (l.take i.toNat++m++l.drop i.toNat),.row 82 (.nm .sess) m],false⟩:=by
 refine ⟨⟨_,Tryz.func64,by decide,rfl⟩,fun G ρ w vs hs hR hvs=>?_⟩
 obtain ⟨i,rfl⟩:=Int.eq_ofNat_of_zero_le h.1
 cases hvs with | cons h0 hvs=>
 cases hvs with | cons h1 hvs=>
 cases hvs with | cons h2 hvs=>
 cases hvs
 have h1:Pd (cx G ρ w) (.int (i:Int)) _:=h1
 cases h1
 have h0:Rd (cx G ρ w) ρ (.own 0) _:=h0
 have h2:Rd (cx G ρ w) ρ (.own 1) _:=h2
 have hH:getO [AO.row 82 (.nm .sess) l,.row 82 (.nm .sess) m] 0 = .row 82 (.nm .sess) l:=rfl
 have hbv:(AV.vw [AO.row 82 (.nm .sess) l,.row 82 (.nm .sess) m] (.own 1)).gj (.nm .sess)=some m:=by simp [AV.vw,AV.gj,getO]
 obtain ⟨A,k,cys,rfl,s1,s2,s3,s4⟩:=pb hR hbv h2
 rw [hm] at h2 s1 s3
 rw [hm]
 obtain ⟨ad,rfl,s5⟩:∃ ad,A=some ad/\CellsAt w ad cys:=s3.resolve_left (by decide)
 have hz:(Sh.nm NT.sess).size=4:=rfl
 rw [hz] at s1
 obtain ⟨u,hu⟩:∃ u,cys[0]? = some u:=⟨_,List.getElem?_eq_getElem (by omega)⟩
 obtain ⟨cur,t,f,hc,hc0⟩:=qM (s5 0 u hu)
 have hne:∀ g c n z,ρ[0]? = some (.row g c n z)->ad.block≠g:=fun g c n z hg e=>by
  rcases h2 with ⟨g',cap',len,z',h3,h4⟩ | ⟨h3,a,h4⟩
  ·cases h4
   have:=hR.inj 0 1 _ _ g hg h3 rfl (by rw [<- e]; rfl)
   omega
  ·cases h4
 rw [gu] at hc
 refine (tg hs hR hH hl (by omega) h0 hm h2 hbv s5 s1 s2 s4 hne hc hc0).mono fun v w' ⟨ρ',k1,k2,k3⟩=>?_
 exact ⟨[v],rfl,ρ',k2,k1.ext,k1.bx,.cons k3 .nil,fun hb=>by cases hb⟩
theorem cW:(Tryz.prog.info? 63).map (·.size)=some 2:=by kernel_rfl
theorem xV:(Tryz.prog.info? 63).map (fun i=>(i.zero,i.size,i.bytes))=some (some (.agg #[.int .i64 0,.int .i64 0]),2,16):=by kernel_rfl
set_option maxRecDepth 100000 in
set_option maxHeartbeats 1000000 in
theorem wB {w:World} {n c vc:Nat} {A:Option Addr} {B:Option Addr} {φ:Value->World->Prop} (happ:∀ (F:Fr) (x y:Operand) (ty:TypeId),ev F x=some (.slice A n c)->ev F y=some (.slice B 1 vc)->∃ v2 w2,aT Tryz.prog 95 F w (.call { callee:=.builtin .append,args:=#[x,y],argTypes:=#[40,40] }) ty v2 w2/\φ v2 w2) :
  jm Tryz.prog 176 [.slice A n c,.int .i64 (n:Int),.slice B 1 vc].toArray w φ:=by
 refine jm.enter Tryz.func176 rfl rfl rfl rfl ?_
 refine WC.seq ?_
 refine WC.region ?_
 refine WO.v (R.assign rfl) rfl ?_
 refine WO.nil ?_
 refine WX.next ?_
 refine WC.seq ?_
 refine WC.region ?_
 refine WO.v (R.move rfl) rfl ?_
 refine WO.v (R.move rfl) rfl ?_
 refine WO.v (R.cK rfl rfl Tryz.underlying40 cW rfl (by omega)) rfl ?_
 refine WO.nil ?_
 refine WX.next ?_
 refine WC.seq ?_
 refine WC.region ?_
 refine WO.v (R.move rfl) rfl ?_
 refine WO.v (R.len rfl Tryz.underlying40) rfl ?_
 refine WO.v (R.assign rfl) rfl ?_
 refine WO.nil ?_
 refine WX.next ?_
 refine WC.seq ?_
 refine WC.seq ?_
 refine WC.region ?_
 refine WO.v (R.move rfl) rfl ?_
 refine WO.v (R.eql rfl rfl) rfl ?_
 refine WO.nil ?_
 refine WX.next ?_
 refine WC.cond rfl (fun q=>absurd (of_decide_eq_true q) (by omega)) (fun _=>?_)
 refine WC.skip ?_
 refine WX.next ?_
 refine WC.seq ?_
 refine WC.region ?_
 refine WO.v (R.move rfl) rfl ?_
 refine WO.v (R.len rfl Tryz.underlying40) rfl ?_
 refine WO.v (R.assign rfl) rfl ?_
 refine WO.nil ?_
 refine WX.next ?_
 refine WC.seq ?_
 refine WC.seq ?_
 refine WC.region ?_
 refine WO.v (R.move rfl) rfl ?_
 refine WO.v (R.move rfl) rfl ?_
 refine WO.v (R.eql rfl rfl) rfl ?_
 refine WO.nil ?_
 refine WX.next ?_
 refine WC.cond rfl (fun _=>?_) (fun q=>absurd rfl (of_decide_eq_false q))
 refine WC.seq ?_
 refine WC.region ?_
 refine WO.v (R.move rfl) rfl ?_
 refine WO.v (R.move rfl) rfl ?_
 refine WO.ve (happ _ _ _ _ rfl rfl) rfl fun v2 w2 hv2=>?_
 refine WO.v (R.assign rfl) rfl ?_
 refine WO.nil ?_
 refine WX.next ?_
 refine WC.ret ?_
 refine WX.iW ?_
 refine WX.wM rfl rfl ?_
 exact hv2
set_option maxRecDepth 100000 in
set_option maxHeartbeats 1000000 in
theorem sX {w W1:World} {g b n i c vc G:Nat} {ad:Addr} {cur vs ds:List Value} (hi:i<n) (hnc:n<=c) (hc:c<n+1) (hcm:c<=maxLen) (hG:n+1<=G) (hGm:G<=maxLen)
  (happ:∀ (F:Fr) (x y:Operand) (ty:TypeId),ev F x=some (.slice (some ⟨g,0*2,none⟩) i c)->ev F y=some (.int .i64 ((n+1 - i:Nat):Int))->aT Tryz.prog 95 F w (.call { callee:=.builtin .append,args:=#[x,y],argTypes:=#[40,3] }) ty (.slice (some ⟨b,0,none⟩) (n+1) G) W1)
  (hrow:W1.heap[b]? = some (.cells cur.toArray 63 (0,0))) (hcur:(n+1)*2<=cur.length) (hv:CellsAt W1 ad vs) (hvl:vs.length=2) (hd:CellsAt W1 ⟨g,i*2,none⟩ ds) (hgb:g≠b) (hgl:g<W1.heap.size) (hdl:ds.length=(n - i)*2)
  (h1v:∀ u ∈ vs,u.oneCell' = true) (h1d:∀ u ∈ ds,u.oneCell' = true) :
  jm Tryz.prog 176 [.slice (some ⟨g,0,none⟩) n c,.int .i64 (i:Int),.slice (some ad) 1 vc].toArray w fun v w'=>v = .slice (some ⟨b,0,none⟩) (n+1) G/\∃ w1,Kp [] (W1.setRow b (cur.take (i*2)++vs++cur.drop (i*2+vs.length)).toArray) w1/\w' = w1.setRow b ((cur.take (i*2)++vs++cur.drop (i*2+vs.length)).take ((i+1)*2)++ds++(cur.take (i*2)++vs++cur.drop (i*2+vs.length)).drop ((i+1)*2+ds.length)).toArray:=by
 have hGm:G<=9223372036854775807:=hGm
 have hcm:c<=9223372036854775807:=hcm
 have hn1:vs.length=Nat.min 1 (n+1 - i)*2:=by rw [show Nat.min 1 (n+1 - i)=1 from Nat.min_eq_left (by omega),Nat.one_mul]; exact hvl
 have hn2:ds.length=Nat.min (n - i) (n+1 - (i+1))*2:=by rw [show Nat.min (n - i) (n+1 - (i+1))=n - i from Nat.min_eq_left (by omega)]; exact hdl
 refine jm.enter Tryz.func176 rfl rfl rfl rfl ?_
 refine WC.seq ?_
 refine WC.region ?_
 refine WO.v (R.assign rfl) rfl ?_
 refine WO.nil ?_
 refine WX.next ?_
 refine WC.seq ?_
 refine WC.region ?_
 refine WO.v (R.move rfl) rfl ?_
 refine WO.v (R.move rfl) rfl ?_
 refine WO.v (R.cK rfl rfl Tryz.underlying40 cW rfl (by omega)) rfl ?_
 refine WO.nil ?_
 refine WX.next ?_
 refine WC.seq ?_
 refine WC.region ?_
 refine WO.v (R.move rfl) rfl ?_
 refine WO.v (R.len rfl Tryz.underlying40) rfl ?_
 refine WO.v (R.assign rfl) rfl ?_
 refine WO.nil ?_
 refine WX.next ?_
 refine WC.seq ?_
 refine WC.seq ?_
 refine WC.region ?_
 refine WO.v (R.move rfl) rfl ?_
 refine WO.v (R.eql rfl rfl) rfl ?_
 refine WO.nil ?_
 refine WX.next ?_
 refine WC.cond rfl (fun q=>absurd (of_decide_eq_true q) (by omega)) (fun _=>?_)
 refine WC.skip ?_
 refine WX.next ?_
 refine WC.seq ?_
 refine WC.region ?_
 refine WO.v (R.move rfl) rfl ?_
 refine WO.v (R.len rfl Tryz.underlying40) rfl ?_
 refine WO.v (R.assign rfl) rfl ?_
 refine WO.nil ?_
 refine WX.next ?_
 refine WC.seq ?_
 refine WC.seq ?_
 refine WC.region ?_
 refine WO.v (R.move rfl) rfl ?_
 refine WO.v (R.move rfl) rfl ?_
 refine WO.v (R.eql rfl rfl) rfl ?_
 refine WO.nil ?_
 refine WX.next ?_
 refine WC.cond rfl (fun q=>absurd (of_decide_eq_true q) (by omega)) (fun _=>?_)
 refine WC.skip ?_
 refine WX.next ?_
 refine WC.seq ?_
 refine WC.seq ?_
 refine WC.region ?_
 refine WO.v (R.move rfl) rfl ?_
 refine WO.v (R.move rfl) rfl ?_
 refine WO.v (R.lq rfl rfl (by omega)) rfl ?_
 refine WO.v (R.move rfl) rfl ?_
 refine WO.v (R.GV rfl Tryz.underlying40) rfl ?_
 refine WO.v (R.gtr rfl rfl) rfl ?_
 refine WO.nil ?_
 refine WX.next ?_
 refine WC.cond rfl (fun _=>?_) (fun q=>absurd (by omega) (of_decide_eq_false q))
 refine WC.seq ?_
 refine WC.region ?_
 refine WO.v (R.move rfl) rfl ?_
 refine WO.v (R.move rfl) rfl ?_
 refine WO.v (R.lN rfl rfl Tryz.underlying40 cW (dX (i:=0) (by omega)) (by omega)) rfl ?_
 refine WO.v (R.move rfl) rfl ?_
 refine WO.v (R.move rfl) rfl ?_
 refine WO.v (R.lq rfl rfl (by omega)) rfl ?_
 refine WO.v (R.move rfl) rfl ?_
 refine WO.v (R.Qq rfl rfl (by omega) (by omega)) rfl ?_
 refine WO.v (happ _ _ _ _ rfl rfl) rfl ?_
 refine WO.v (R.assign rfl) rfl ?_
 refine WO.nil ?_
 refine WX.next ?_
 refine WC.seq ?_
 refine WC.region ?_
 refine WO.v (R.move rfl) rfl ?_
 refine WO.v (R.move rfl) rfl ?_
 refine WO.v (R.cK rfl rfl Tryz.underlying40 cW (dX (by omega)) (by omega)) rfl ?_
 refine WO.v (R.move rfl) rfl ?_
 refine WO.v (R.mY rfl rfl Tryz.underlying40 cW hrow hn1 hv (by omega) h1v) rfl ?_
 refine WO.nil ?_
 refine WX.next ?_
 refine WC.seq ?_
 refine WC.qN iK [.ex [] (.slice (some ⟨b,0,none⟩) (n+1) G),.ex [] (.int .i64 ((i:Nat):Int)),.ex [] (.int .i64 ((1:Nat):Int)),.ex [1,2] (.int .i64 ((i+1:Nat):Int)),.ex [0,3] (.slice (some ⟨b,(i+1)*2,none⟩) (n+1 - (i+1)) (G - (i+1))),.ex [] (.slice (some ⟨g,0,none⟩) n c),.ex [] (.int .i64 ((i:Nat):Int)),.ex [5,6] (.slice (some ⟨g,i*2,none⟩) (n - i) (c - i))] 8 (by kernel_rfl) ⟨fun _ _ _ h _=>h,fun _ _ _ h _=>h,fun _ _ _ h _=>h,fun _ _ _ h _=>h,fun _ _ _ h _=>h,fun _ _ _ h _=>h,fun _ _ _ h _=>h,fun _ _ _ h _=>h,trivial⟩ ⟨?_,?_,?_,?_,?_,?_,?_,?_,trivial⟩ ?_
 ·rintro vs wd kd ⟨-⟩
  refine WO.bJ (fr':=[(9,.slice (some ⟨b,0,none⟩) (n+1) G)]) ⟨⟨_,rfl,rfl⟩,trivial⟩ ?_
  refine WO.v (R.move rfl) rfl ?_
  refine WO.nil ?_
  exact WX.aP rfl rfl (Kp.refl _)
 ·rintro vs wd kd ⟨-⟩
  refine WO.bJ (fr':=[(1,.int .i64 ((i:Nat):Int))]) ⟨⟨_,rfl,rfl⟩,trivial⟩ ?_
  refine WO.v (R.move rfl) rfl ?_
  refine WO.nil ?_
  exact WX.aP rfl rfl (Kp.refl _)
 ·rintro vs wd kd ⟨-⟩
  refine WO.bJ (fr':=[(7,.int .i64 ((1:Nat):Int))]) ⟨⟨_,rfl,rfl⟩,trivial⟩ ?_
  refine WO.v (R.move rfl) rfl ?_
  refine WO.nil ?_
  exact WX.aP rfl rfl (Kp.refl _)
 ·rintro vs wd kd ⟨e1,e2,-⟩
  refine WO.bJ (fr':=[(47,.int .i64 ((i:Nat):Int)),(48,.int .i64 ((1:Nat):Int))]) ⟨⟨_,rfl,e1⟩,⟨_,rfl,e2⟩,trivial⟩ ?_
  refine WO.v (R.lq rfl rfl (by omega)) rfl ?_
  refine WO.nil ?_
  exact WX.aP rfl rfl (Kp.refl _)
 ·rintro vs wd kd ⟨e0,e3,-⟩
  refine WO.bJ (fr':=[(46,.slice (some ⟨b,0,none⟩) (n+1) G),(49,.int .i64 ((i+1:Nat):Int))]) ⟨⟨_,rfl,e0⟩,⟨_,rfl,e3⟩,trivial⟩ ?_
  refine WO.v (R.cK rfl rfl Tryz.underlying40 cW (dX (by omega)) (by omega)) rfl ?_
  refine WO.nil ?_
  exact WX.aP rfl rfl (Kp.refl _)
 ·rintro vs wd kd ⟨-⟩
  refine WO.bJ (fr':=[(0,.slice (some ⟨g,0,none⟩) n c)]) ⟨⟨_,rfl,rfl⟩,trivial⟩ ?_
  refine WO.v (R.move rfl) rfl ?_
  refine WO.nil ?_
  exact WX.aP rfl rfl (Kp.refl _)
 ·rintro vs wd kd ⟨-⟩
  refine WO.bJ (fr':=[(1,.int .i64 ((i:Nat):Int))]) ⟨⟨_,rfl,rfl⟩,trivial⟩ ?_
  refine WO.v (R.move rfl) rfl ?_
  refine WO.nil ?_
  exact WX.aP rfl rfl (Kp.refl _)
 ·rintro vs wd kd ⟨e5,e6,-⟩
  refine WO.bJ (fr':=[(51,.slice (some ⟨g,0,none⟩) n c),(52,.int .i64 ((i:Nat):Int))]) ⟨⟨_,rfl,e5⟩,⟨_,rfl,e6⟩,trivial⟩ ?_
  refine WO.v (R.cK rfl rfl Tryz.underlying40 cW (dX (by omega)) (by omega)) rfl ?_
  refine WO.nil ?_
  exact WX.aP rfl rfl (Kp.refl _)
 rintro vsx w1 k1 ⟨-,-,-,-,e4,-,-,e7,-⟩
 replace k1:Kp [] (W1.setRow b (cur.take (i*2)++vs++cur.drop (i*2+vs.length)).toArray) w1:=k1
 refine WO.bJ (fr':=[(50,.slice (some ⟨b,(i+1)*2,none⟩) (n+1 - (i+1)) (G - (i+1))),(53,.slice (some ⟨g,i*2,none⟩) (n - i) (c - i)),(9,.slice (some ⟨b,0,none⟩) (n+1) G)]) ⟨⟨_,rfl,e4⟩,⟨_,rfl,e7⟩,⟨_,rfl,rfl⟩,trivial⟩ ?_
 have hb2:w1.heap[b]? = some (.cells (List.toArray (cur.take (i*2)++vs++cur.drop (i*2+vs.length))) 63 (0,0)):=by rw [k1.block b (by simpa using bg hrow) (by simp)]; exact setRow_heap W1 b _ _ 63 _ hrow
 have hd2:CellsAt w1 ⟨g,i*2,none⟩ ds:=(hd.kp (Kp.setRow W1 b _) hgl (by simpa using hgb.symm)).kp k1 (by simpa using hgl) (by simp)
 refine WO.v (R.mY rfl rfl Tryz.underlying40 cW hb2 hn2 hd2 (by simp only [List.length_append,List.length_take,List.length_drop]; omega) h1d) rfl ?_
 refine WO.nil ?_
 refine WX.next ?_
 refine WC.seq ?_
 refine WC.region ?_
 refine WO.v (R.move rfl) rfl ?_
 refine WO.v (R.assign rfl) rfl ?_
 refine WO.nil ?_
 refine WX.next ?_
 refine WC.ret ?_
 refine WX.iW ?_
 refine WX.wM rfl rfl ?_
 exact ⟨rfl,w1,k1,rfl⟩
set_option maxRecDepth 100000 in
set_option maxHeartbeats 1000000 in
theorem sN {w:World} {g n i c vc:Nat} {ad:Addr} {cur vs ds:List Value} {curA:Array Value} {tA:TypeId} {fA:Nat × Nat} (hi:i<n) (hc:n+1<=c) (hcm:c<=maxLen)
  (hrow:w.heap[g]? = some (.cells cur.toArray 63 (0,0))) (hcur:(n+1)*2<=cur.length) (hv:CellsAt w ad vs) (hvb:w.heap[ad.block]? = some (.cells curA tA fA)) (hvb0:curA.size≠0) (hne:ad.block≠g) (hvl:vs.length=2) (hd:CellsAt w ⟨g,i*2,none⟩ ds) (hdl:ds.length=(n - i)*2)
  (h1v:∀ u ∈ vs,u.oneCell' = true) (h1d:∀ u ∈ ds,u.oneCell' = true) :
  jm Tryz.prog 176 [.slice (some ⟨g,0,none⟩) n c,.int .i64 (i:Int),.slice (some ad) 1 vc].toArray w fun v w'=>v = .slice (some ⟨g,0,none⟩) (n+1) c/\∃ w1,Kp [] w w1/\w' = (w1.setRow g (cur.take ((i+1)*2)++ds++cur.drop ((i+1)*2+ds.length)).toArray).setRow g ((cur.take ((i+1)*2)++ds++cur.drop ((i+1)*2+ds.length)).take (i*2)++vs++(cur.take ((i+1)*2)++ds++cur.drop ((i+1)*2+ds.length)).drop (i*2+vs.length)).toArray:=by
 have hcm:c<=9223372036854775807:=hcm
 have hn1:vs.length=Nat.min 1 (n+1 - i)*2:=by rw [show Nat.min 1 (n+1 - i)=1 from Nat.min_eq_left (by omega),Nat.one_mul]; exact hvl
 have hn2:ds.length=Nat.min (n+1 - i) (n+1 - (i+1))*2:=by rw [show Nat.min (n+1 - i) (n+1 - (i+1))=n+1 - (i+1) from Nat.min_eq_right (by omega),hdl]; congr 1; omega
 refine jm.enter Tryz.func176 rfl rfl rfl rfl ?_
 refine WC.seq ?_
 refine WC.region ?_
 refine WO.v (R.assign rfl) rfl ?_
 refine WO.nil ?_
 refine WX.next ?_
 refine WC.seq ?_
 refine WC.region ?_
 refine WO.v (R.move rfl) rfl ?_
 refine WO.v (R.move rfl) rfl ?_
 refine WO.v (R.cK rfl rfl Tryz.underlying40 cW rfl (by omega)) rfl ?_
 refine WO.nil ?_
 refine WX.next ?_
 refine WC.seq ?_
 refine WC.region ?_
 refine WO.v (R.move rfl) rfl ?_
 refine WO.v (R.len rfl Tryz.underlying40) rfl ?_
 refine WO.v (R.assign rfl) rfl ?_
 refine WO.nil ?_
 refine WX.next ?_
 refine WC.seq ?_
 refine WC.seq ?_
 refine WC.region ?_
 refine WO.v (R.move rfl) rfl ?_
 refine WO.v (R.eql rfl rfl) rfl ?_
 refine WO.nil ?_
 refine WX.next ?_
 refine WC.cond rfl (fun q=>absurd (of_decide_eq_true q) (by omega)) (fun _=>?_)
 refine WC.skip ?_
 refine WX.next ?_
 refine WC.seq ?_
 refine WC.region ?_
 refine WO.v (R.move rfl) rfl ?_
 refine WO.v (R.len rfl Tryz.underlying40) rfl ?_
 refine WO.v (R.assign rfl) rfl ?_
 refine WO.nil ?_
 refine WX.next ?_
 refine WC.seq ?_
 refine WC.seq ?_
 refine WC.region ?_
 refine WO.v (R.move rfl) rfl ?_
 refine WO.v (R.move rfl) rfl ?_
 refine WO.v (R.eql rfl rfl) rfl ?_
 refine WO.nil ?_
 refine WX.next ?_
 refine WC.cond rfl (fun q=>absurd (of_decide_eq_true q) (by omega)) (fun _=>?_)
 refine WC.skip ?_
 refine WX.next ?_
 refine WC.seq ?_
 refine WC.seq ?_
 refine WC.region ?_
 refine WO.v (R.move rfl) rfl ?_
 refine WO.v (R.move rfl) rfl ?_
 refine WO.v (R.lq rfl rfl (by omega)) rfl ?_
 refine WO.v (R.move rfl) rfl ?_
 refine WO.v (R.GV rfl Tryz.underlying40) rfl ?_
 refine WO.v (R.gtr rfl rfl) rfl ?_
 refine WO.nil ?_
 refine WX.next ?_
 refine WC.cond rfl (fun q=>absurd (of_decide_eq_true q) (by omega)) (fun _=>?_)
 refine WC.skip ?_
 refine WX.next ?_
 refine WC.seq ?_
 refine WC.region ?_
 refine WO.v (R.move rfl) rfl ?_
 refine WO.v (R.move rfl) rfl ?_
 refine WO.v (R.move rfl) rfl ?_
 refine WO.v (R.lq rfl rfl (by omega)) rfl ?_
 refine WO.v (R.lN rfl rfl Tryz.underlying40 cW (dX (i:=0) (by omega)) (by omega)) rfl ?_
 refine WO.v (R.assign rfl) rfl ?_
 refine WO.nil ?_
 refine WX.next ?_
 refine WC.seq ?_
 refine WC.seq ?_
 refine WC.region ?_
 refine WO.v (R.move rfl) rfl ?_
 refine WO.v (R.move rfl) rfl ?_
 refine WO.v (R.move rfl) rfl ?_
 refine WO.v (R.move rfl) rfl ?_
 refine WO.v (R.lq rfl rfl (by omega)) rfl ?_
 refine WO.v (R.cK rfl rfl Tryz.underlying40 cW (dX (by omega)) (by omega)) rfl ?_
 refine WO.v (R.SE (tS:=40) (tR:=4) Tryz.func186 rfl rfl (by kernel_rfl) (by kernel_rfl) Tryz.underlying40 cW hne hvb hvb0 hrow rfl rfl) rfl ?_
 refine WO.v (R.not rfl) rfl ?_
 refine WO.nil ?_
 refine WX.next ?_
 refine WC.Fo rfl ?_
 refine WC.seq ?_
 refine WC.qN iK [.ex [] (.slice (some ⟨g,0,none⟩) (n+1) c),.ex [] (.int .i64 ((i:Nat):Int)),.ex [] (.int .i64 ((1:Nat):Int)),.ex [1,2] (.int .i64 ((i+1:Nat):Int)),.ex [0,3] (.slice (some ⟨g,(i+1)*2,none⟩) (n+1 - (i+1)) (c - (i+1))),.ex [] (.slice (some ⟨g,0,none⟩) (n+1) c),.ex [] (.int .i64 ((i:Nat):Int)),.ex [5,6] (.slice (some ⟨g,i*2,none⟩) (n+1 - i) (c - i))] 8 (by kernel_rfl) ⟨fun _ _ _ h _=>h,fun _ _ _ h _=>h,fun _ _ _ h _=>h,fun _ _ _ h _=>h,fun _ _ _ h _=>h,fun _ _ _ h _=>h,fun _ _ _ h _=>h,fun _ _ _ h _=>h,trivial⟩ ⟨?_,?_,?_,?_,?_,?_,?_,?_,trivial⟩ ?_
 ·rintro vs wd kd ⟨-⟩
  refine WO.bJ (fr':=[(0,.slice (some ⟨g,0,none⟩) (n+1) c)]) ⟨⟨_,rfl,rfl⟩,trivial⟩ ?_
  refine WO.v (R.move rfl) rfl ?_
  refine WO.nil ?_
  exact WX.aP rfl rfl (Kp.refl _)
 ·rintro vs wd kd ⟨-⟩
  refine WO.bJ (fr':=[(1,.int .i64 ((i:Nat):Int))]) ⟨⟨_,rfl,rfl⟩,trivial⟩ ?_
  refine WO.v (R.move rfl) rfl ?_
  refine WO.nil ?_
  exact WX.aP rfl rfl (Kp.refl _)
 ·rintro vs wd kd ⟨-⟩
  refine WO.bJ (fr':=[(7,.int .i64 ((1:Nat):Int))]) ⟨⟨_,rfl,rfl⟩,trivial⟩ ?_
  refine WO.v (R.move rfl) rfl ?_
  refine WO.nil ?_
  exact WX.aP rfl rfl (Kp.refl _)
 ·rintro vs wd kd ⟨e1,e2,-⟩
  refine WO.bJ (fr':=[(70,.int .i64 ((i:Nat):Int)),(71,.int .i64 ((1:Nat):Int))]) ⟨⟨_,rfl,e1⟩,⟨_,rfl,e2⟩,trivial⟩ ?_
  refine WO.v (R.lq rfl rfl (by omega)) rfl ?_
  refine WO.nil ?_
  exact WX.aP rfl rfl (Kp.refl _)
 ·rintro vs wd kd ⟨e0,e3,-⟩
  refine WO.bJ (fr':=[(69,.slice (some ⟨g,0,none⟩) (n+1) c),(72,.int .i64 ((i+1:Nat):Int))]) ⟨⟨_,rfl,e0⟩,⟨_,rfl,e3⟩,trivial⟩ ?_
  refine WO.v (R.cK rfl rfl Tryz.underlying40 cW (dX (by omega)) (by omega)) rfl ?_
  refine WO.nil ?_
  exact WX.aP rfl rfl (Kp.refl _)
 ·rintro vs wd kd ⟨-⟩
  refine WO.bJ (fr':=[(0,.slice (some ⟨g,0,none⟩) (n+1) c)]) ⟨⟨_,rfl,rfl⟩,trivial⟩ ?_
  refine WO.v (R.move rfl) rfl ?_
  refine WO.nil ?_
  exact WX.aP rfl rfl (Kp.refl _)
 ·rintro vs wd kd ⟨-⟩
  refine WO.bJ (fr':=[(1,.int .i64 ((i:Nat):Int))]) ⟨⟨_,rfl,rfl⟩,trivial⟩ ?_
  refine WO.v (R.move rfl) rfl ?_
  refine WO.nil ?_
  exact WX.aP rfl rfl (Kp.refl _)
 ·rintro vs wd kd ⟨e5,e6,-⟩
  refine WO.bJ (fr':=[(74,.slice (some ⟨g,0,none⟩) (n+1) c),(75,.int .i64 ((i:Nat):Int))]) ⟨⟨_,rfl,e5⟩,⟨_,rfl,e6⟩,trivial⟩ ?_
  refine WO.v (R.cK rfl rfl Tryz.underlying40 cW (dX (by omega)) (by omega)) rfl ?_
  refine WO.nil ?_
  exact WX.aP rfl rfl (Kp.refl _)
 rintro vsx w1 k1 ⟨-,-,-,-,e4,-,-,e7,-⟩
 replace k1:Kp [] w w1:=k1
 refine WO.bJ (fr':=[(73,.slice (some ⟨g,(i+1)*2,none⟩) (n+1 - (i+1)) (c - (i+1))),(76,.slice (some ⟨g,i*2,none⟩) (n+1 - i) (c - i)),(0,.slice (some ⟨g,0,none⟩) (n+1) c),(1,.int .i64 ((i:Nat):Int)),(2,.slice (some ad) 1 vc)]) ⟨⟨_,rfl,e4⟩,⟨_,rfl,e7⟩,⟨_,rfl,rfl⟩,⟨_,rfl,rfl⟩,⟨_,rfl,rfl⟩,trivial⟩ ?_
 have hg1:w1.heap[g]? = some (.cells (List.toArray cur) 63 (0,0)):=by rw [k1.block g (bg hrow) (by simp)]; exact hrow
 refine WO.v (R.mY rfl rfl Tryz.underlying40 cW hg1 hn2 (hd.kp k1 (bg hrow) (by simp)) (by omega) h1d) rfl ?_
 refine WO.nil ?_
 refine WX.next ?_
 have hg2:(w1.setRow g (cur.take ((i+1)*2)++ds++cur.drop ((i+1)*2+ds.length)).toArray).heap[g]? = some (.cells (List.toArray (cur.take ((i+1)*2)++ds++cur.drop ((i+1)*2+ds.length))) 63 (0,0)):=setRow_heap w1 g _ _ 63 _ hg1
 have hv2:CellsAt (w1.setRow g (cur.take ((i+1)*2)++ds++cur.drop ((i+1)*2+ds.length)).toArray) ad vs:=(hv.kp k1 (bg hvb) (by simp)).kp (Kp.setRow w1 g _) (Nat.lt_of_lt_of_le (bg hvb) k1.size) (by simpa using fun h=>hne h.symm)
 refine WC.seq ?_
 refine WC.region ?_
 refine WO.v (R.move rfl) rfl ?_
 refine WO.v (R.move rfl) rfl ?_
 refine WO.v (R.cK rfl rfl Tryz.underlying40 cW (dX (by omega)) (by omega)) rfl ?_
 refine WO.v (R.move rfl) rfl ?_
 refine WO.v (R.mY rfl rfl Tryz.underlying40 cW hg2 hn1 hv2 (by simp only [List.length_append,List.length_take,List.length_drop]; omega) h1v) rfl ?_
 refine WO.nil ?_
 refine WX.next ?_
 refine WC.seq ?_
 refine WC.region ?_
 refine WO.v (R.move rfl) rfl ?_
 refine WO.v (R.assign rfl) rfl ?_
 refine WO.nil ?_
 refine WX.next ?_
 refine WC.ret ?_
 refine WX.iW ?_
 refine WX.wM rfl rfl ?_
 exact ⟨rfl,w1,k1,rfl⟩
theorem wA {G:Gl} {ρ:List RE} {H:AH} {w:World} (hs:G.shp=ao aF) (hR:Rep G ρ H w) {l m:List (den (.nm .opn))} (hH:getO H 0 = .row 63 (.nm .opn) l) (hl:l.length<1048576) {i:Nat} (hi:i<=l.length) {v0:Value} (h0:Rd (cx G ρ w) ρ (.own 0) v0)
  {ad:Addr} {k:Nat} {cys:List Value} {bAV:AV} (hm:m.length=1) (hb:Rd (cx G ρ w) ρ bAV (.slice (some ad) 1 k)) (hbv:(bAV.vw H).gj (.nm .opn)=some m) (hv:CellsAt w ad cys) (hvl:cys.length=2) (h1v:∀ u ∈ cys,u.oneCell' = true) (hp:Pds (cx G ρ w) (m.flatMap (cellsOf (.nm .opn))) cys)
  (hne:∀ g c n z,ρ[0]? = some (.row g c n z)->ad.block≠g) {curA:Array Value} {tA:TypeId} {fA:Nat × Nat} (hvb:w.heap[ad.block]? = some (.cells curA tA fA)) (hvb0:curA.size≠0) :
  jm Tryz.prog 176 [v0,.int .i64 (i:Int),.slice (some ad) 1 k].toArray w fun v w'=>∃ ρ',Stp (AE 0) ρ w ρ' w' /\ Rep G ρ' ((fK (AV.kill 0) H).set 0 (.row 63 (.nm .opn) (l.take i++m++l.drop i))) w' /\ Rd (cx G ρ' w') ρ' (.own 0) v:=by
 have hT:bF Tryz.prog G.shp aF:=hs ▸ iE
 obtain ⟨hshp,hlen⟩:=dK hR hH
 have hl64:l.length<=9223372036854775807:=by omega
 have hin:((l.length:Nat):Int)<=9223372036854775807:=by omega
 by_cases hie:i=l.length
 ·subst hie
  have hc:∃ A c,v0 = .slice A l.length c:=by
   rcases h0 with ⟨g,cap,len,z,h1,rfl⟩ | ⟨h1,a,rfl⟩
   ·rcases bK hR hH with ⟨h2,_⟩ | ⟨g',cap',cells,sp,h2,_⟩
    ·rw [h1] at h2; cases h2
    ·rw [h1] at h2; cases h2; exact ⟨_,_,rfl⟩
   ·rcases bK hR hH with ⟨_,h2⟩ | ⟨g',cap',cells,sp,h2,_⟩
    ·subst h2; exact ⟨_,_,rfl⟩
    ·rw [h1] at h2; cases h2
  obtain ⟨A,c,rfl⟩:=hc
  refine wB fun F x y ty hx hy=>?_
  have happ:gI aF (AE 0) ([]:AFr) H 40 (.own 0) bAV=some ⟨one (.own 0),[],(fK (AV.kill 0) H).set 0 (.row 63 (.nm .opn) (l++m)),[(l.length+m.length)*(Sh.nm NT.opn).bytes<=140737488355328],[]⟩:=by
   unfold gI
   rw [show bI aF 40=some ⟨.sl 63 (some (.nm .opn)),1,[.em true]⟩ from by kernel_rfl]
   simp only [hbv,hH]
   rfl
  obtain ⟨v,w',h1,ρ',h2,h3,_,h5,_⟩:=g_ (P:=Tryz.prog) (n:=95) (F:=[]) (ty:=ty) (fr:=[]) (x:=.const (.slice A l.length c)) (y:=.const (.slice (some ad) 1 k)) hT hR .nil happ (by
   intro p hp
   rw [List.mem_singleton] at hp; subst hp
   show (l.length+m.length)*16<=_
   omega) h0 hb rfl rfl
  refine ⟨v,w',R.yq h1 hx hy,ρ',h2,?_,h5⟩
  rw [List.take_length,List.drop_length,List.append_nil]
  exact h3
 ·have hlt:i<l.length:=by omega
  rcases bK hR hH with ⟨_,h2⟩ | ⟨g,cap,cells,sp,hρ,hg,hpd,hsz,hcap,hmax⟩
  ·subst h2; simp at hlt
  obtain ⟨hnb,hil,hiH⟩:=mF hR hH
  have hv0:v0 = .slice (some ⟨g,0,none⟩) l.length cap:=by
   rcases h0 with ⟨g',cap',len,z,h1,rfl⟩ | ⟨h1,a,rfl⟩
   ·rw [hρ] at h1; cases h1; rfl
   ·rw [hρ] at h1; cases h1
  subst hv0
  have hz:(Sh.nm NT.opn).size=2:=rfl
  have hby:(Sh.nm NT.opn).bytes=16:=rfl
  have hcl:cells.length=l.length*2:=by rw [<- hpd.length,b_,hz]
  rw [hz,List.length_append] at hsz
  have hone:∀ u ∈ cells.drop (i*2),u.oneCell' = true:=fun u hu=>hpd.Dy u (List.mem_of_mem_drop hu)
  have hd:CellsAt w ⟨g,i*2,none⟩ (cells.drop (i*2)):=by
   have:=(cC hg).shift (i*2)
   rwa [add_lit,Nat.zero_add] at this
  have hdl:(cells.drop (i*2)).length=(l.length - i)*2:=by rw [List.length_drop,hcl]; omega
  have hgl:=bg hg
  have hzl:(l.take i++m++l.drop i).length=l.length+1:=by
   rw [List.length_append,List.length_append,List.length_take,List.length_drop,hm]; omega
  have hnew:∀ {c:Cx},(cx G ρ w).le c->Pds c ((l.take i++m++l.drop i).flatMap (cellsOf (.nm .opn))) (cells.take (i*2)++cys++cells.drop (i*2)):=fun {c} hle=>by
   rw [List.flatMap_append,List.flatMap_append]
   exact (((bW hpd i).append hp).append (cm hpd i)).carry hle
  have hnl:(cells.take (i*2)++cys++cells.drop (i*2)).length=(l.length+1)*2:=by
   rw [List.length_append,List.length_append,List.length_take,List.length_drop,hcl,hvl]; omega
  have hbig:(l.take i++m++l.drop i).length*(Sh.nm NT.opn).bytes<=140737488355328:=by rw [hzl,hby]; omega
  -- what is shown of any way
  have fin:∀ (S:List Nat) (g2 cap2:Nat) (sp2:List Value) (w':World),Kp S w w' -> (∀ b ∈ S,b=g)->(g2=g\/w.heap.size<=g2)->w'.heap[g2]? = some (.cells (List.toArray (cells.take (i*2)++cys++cells.drop (i*2)++sp2)) 63 (0,0))->(l.length+1)*2+sp2.length=cap2*2->l.length+1<=cap2->cap2<=maxLen ->
    ∃ ρ',Stp (AE 0) ρ w ρ' w' /\ Rep G ρ' ((fK (AV.kill 0) H).set 0 (.row 63 (.nm .opn) (l.take i++m++l.drop i))) w' /\ Rd (cx G ρ' w') ρ' (.own 0) (.slice (some ⟨g2,0,none⟩) (l.length+1) cap2):=by
   intro S g2 cap2 sp2 w' hk hS hg2 hh hlen2 hle2 hmax2
   obtain ⟨k1,k2,_⟩:=kU (ro:=AE 0) (s':=.nm .opn) (e':=63) (zs:=l.take i++m++l.drop i) hR hH ⟨rfl,rfl⟩ hk (fun b hb=>⟨_,hρ,by rw [hS b hb]; rfl⟩) (r':=.row g2 cap2 (l.take i++m++l.drop i).length (Sh.nm NT.opn).size) (fun b hb=>by
    cases hb
    rcases hg2 with rfl | hg2
    ·exact .inl ⟨_,hρ,rfl⟩
    ·exact .inr ⟨hg2,bg hh⟩) (fun hle=>⟨hshp,hbig,.inr ⟨g2,cap2,_,sp2,rfl,hh,hnew hle,by rw [List.length_append,hnl,hz]; exact hlen2,by rw [hzl]; exact hle2,hmax2⟩⟩)
   exact ⟨_,k1,k2,.inl ⟨g2,cap2,_,_,List.getElem?_set_self hil,by rw [hzl]⟩⟩
  have eo:(i+1)*2=i*2+2:=by omega
  by_cases hroom:l.length+1<=cap
  ·refine (sN hlt hroom hmax hg (by rw [List.length_append]; omega) hv hvb hvb0 (hne _ _ _ _ hρ) hvl hd hdl h1v hone).mono fun v w' ⟨e1,w1,k1,e2⟩=>?_
   subst e1; subst e2
   rw [eo,KO (by omega) hvl]
   have hk:Kp [g] w ((w1.setRow g ((cells++sp).take (i*2+2)++cells.drop (i*2)++(cells++sp).drop (i*2+2+(cells.drop (i*2)).length)).toArray).setRow g (cells.take (i*2)++cys++cells.drop (i*2)++sp.drop 2).toArray):=((k1.sub (by simp)).step (Kp.setRow w1 g _) (by simp)).step (Kp.setRow _ g _) (by simp)
   have hg1:w1.heap[g]? = some (.cells (List.toArray (cells++sp)) 63 (0,0)):=by rw [k1.block g hgl (by simp)]; exact hg
   exact fin [g] g cap (sp.drop 2) _ hk (by simp) (.inl rfl) (setRow_heap _ g _ _ 63 _ (setRow_heap w1 g _ _ 63 _ hg1)) (by rw [List.length_drop]; omega) hroom hmax
  ·obtain ⟨ti,hi0,hz0,hz1,hz2⟩:=info_parts xV
   have eik:i+(l.length+1 - i)=l.length+1:=by omega
   have hge:=grownCap_ge w (l.length+1) cap 63
   have hgm:=grownCap_le_maxLen w (l.length+1) cap 63 (by simp [maxLen]; omega)
   have hold:(Builtin.firstCells ti.size i (.slice (some ⟨g,0*2,none⟩) i cap)).run Tryz.prog w.drew = .ok (cells.take (i*2)).toArray w.drew:=by
    have h:=run_loadCells_list (P:=Tryz.prog) w.drew ⟨g,0*2,none⟩ (cells.take (i*2)) (by rw [Nat.zero_mul]; exact (cC hg).take _)
    rw [List.length_take,Nat.min_eq_left (by omega)] at h
    rw [hz1]; exact h
   have happ:∀ (F:Fr) (x y:Operand) (ty:TypeId),ev F x=some (.slice (some ⟨g,0*2,none⟩) i cap)->ev F y=some (.int .i64 ((l.length+1 - i:Nat):Int))->aT Tryz.prog 95 F w (.call { callee:=.builtin .append,args:=#[x,y],argTypes:=#[40,3] }) ty (.slice (some ⟨w.heap.size,0,none⟩) (l.length+1) (grownCap w (l.length+1) cap 63)) (w.drew.alloc (.cells (List.toArray (cells.take (i*2)++((Builtin.zeroCells (Value.agg #[.int .i64 0,.int .i64 0]).cells (l.length+1 - i)).toList++(Builtin.zeroCells (Value.agg #[.int .i64 0,.int .i64 0]).cells (grownCap w (l.length+1) cap 63 - (l.length+1))).toList))) 63)):=fun F x y ty hx hy=>by
    have h:=R.O_ (P:=Tryz.prog) (n:=95) (ty:=ty) hx hy Tryz.underlying40 Tryz.underlying3 hi0 hz0 hold (by omega) (by rw [hz1]; decide) (by omega) (by omega) (by rw [hz2]; omega) (by rw [hz2,eik]; exact growslice_fits (by omega) (by omega))
    rw [eik] at h
    have e:∀ (a:List Value) (b c:Array Value),a.toArray++b++c=(a++(b.toList++c.toList)).toArray:=fun a b c=>by apply Array.ext'; simp
    rw [e] at h
    exact h
   have hcurl:(cells.take (i*2)++((Builtin.zeroCells (Value.agg #[.int .i64 0,.int .i64 0]).cells (l.length+1 - i)).toList++(Builtin.zeroCells (Value.agg #[.int .i64 0,.int .i64 0]).cells (grownCap w (l.length+1) cap 63 - (l.length+1))).toList)).length=grownCap w (l.length+1) cap 63*2:=by
    rw [List.length_append,List.length_append,List.length_take,nS,nS]
    show min _ _+((l.length+1 - i)*2+(grownCap w (l.length+1) cap 63 - (l.length+1))*2)=_
    omega
   have htk:(cells.take (i*2)++((Builtin.zeroCells (Value.agg #[.int .i64 0,.int .i64 0]).cells (l.length+1 - i)).toList++(Builtin.zeroCells (Value.agg #[.int .i64 0,.int .i64 0]).cells (grownCap w (l.length+1) cap 63 - (l.length+1))).toList)).take (i*2)=cells.take (i*2):=List.take_left' (by rw [List.length_take]; omega)
   generalize grownCap w (l.length+1) cap 63=GC at *
   generalize cells.take (i*2)++((Builtin.zeroCells (Value.agg #[.int .i64 0,.int .i64 0]).cells (l.length+1 - i)).toList++(Builtin.zeroCells (Value.agg #[.int .i64 0,.int .i64 0]).cells (GC - (l.length+1))).toList)=cur at *
   have hK1:Kp [] w (w.drew.alloc (.cells (List.toArray cur) 63)):=((Kp.refl w).drew).step (Kp.alloc w.drew _) (by simp)
   have hrow:(w.drew.alloc (.cells (List.toArray cur) 63)).heap[w.heap.size]? = some (.cells (List.toArray cur) 63 (0,0)):=heap_alloc_new w.drew _
   generalize w.drew.alloc (.cells (List.toArray cur) 63)=W1 at *
   refine (sX hlt hcap (by omega) hmax hge hgm happ hrow (by omega) (hv.kp hK1 (bg hvb) (by simp)) hvl (hd.kp hK1 hgl (by simp)) (by omega) (Nat.lt_of_lt_of_le hgl hK1.size) hdl h1v hone).mono fun v w' ⟨e1,w1,k1,e2⟩=>?_
   subst e1; subst e2
   rw [eo,Ks (cells:=cells) (by omega) hvl htk]
   have hs1:∀ b ∈ [w.heap.size],b ∈ ([]:List Nat)\/w.heap.size<=b:=fun b hb=>.inr (by rw [List.mem_singleton] at hb; omega)
   have hk:Kp [] w (w1.setRow w.heap.size (cells.take (i*2)++cys++cells.drop (i*2)++cur.drop (i*2+2+(cells.drop (i*2)).length)).toArray):=((hK1.step (Kp.setRow W1 w.heap.size _) hs1).step k1 (by simp)).step (Kp.setRow w1 w.heap.size _) hs1
   have hg1:=(k1.block w.heap.size (by simpa using bg hrow) (by simp)).trans (setRow_heap W1 w.heap.size _ (cur.take (i*2)++cys++cur.drop (i*2+cys.length)).toArray 63 _ hrow)
   exact fin [] w.heap.size GC _ _ hk (by simp) (.inr (Nat.le_refl _)) (setRow_heap w1 w.heap.size _ _ 63 _ hg1) (by rw [List.length_drop]; omega) hge hgm
theorem rL (i:Int) (l m:List (den (.nm .opn))) (h:0<=i/\i<=(l.length:Int)) (hl:l.length<1048576) (hm:m.length=1):Sat Tryz.prog (ao aF) 176 [.c (.own 0),.c (.int i),.c (.fz (.nm .opn) m)] [.row 63 (.nm .opn) l] ⟨[0<=i/\i<=(l.length:Int),l.length<1048576,m.length=1],[.c (.own 0)],some [.row 63 (.nm .opn) (l.take i.toNat++m++l.drop i.toNat)],false⟩:=by
 refine ⟨⟨_,Tryz.func176,by decide,rfl⟩,fun G ρ w vs hs hR hvs=>?_⟩
 obtain ⟨i,rfl⟩:=Int.eq_ofNat_of_zero_le h.1
 cases hvs with | cons h0 hvs=>
 cases hvs with | cons h1 hvs=>
 cases hvs with | cons h2 hvs=>
 cases hvs
 have h1:Pd (cx G ρ w) (.int (i:Int)) _:=h1
 cases h1
 have h0:Rd (cx G ρ w) ρ (.own 0) _:=h0
 have h2:Rd (cx G ρ w) ρ (.fz (.nm .opn) m) _:=h2
 have hH:getO [AO.row 63 (.nm .opn) l] 0 = .row 63 (.nm .opn) l:=rfl
 have hbv:(AV.vw [AO.row 63 (.nm .opn) l] (.fz (.nm .opn) m)).gj (.nm .opn)=some m:=by simp [AV.vw,AV.gj,getO]
 obtain ⟨A,k,cys,rfl,s1,s2,s3,s4⟩:=pb hR hbv h2
 rw [hm] at h2 s1 s3
 rw [hm]
 obtain ⟨ad,rfl,s5⟩:∃ ad,A=some ad/\CellsAt w ad cys:=s3.resolve_left (by decide)
 have hz:(Sh.nm NT.opn).size=2:=rfl
 rw [hz] at s1
 obtain ⟨u,hu⟩:∃ u,cys[0]? = some u:=⟨_,List.getElem?_eq_getElem (by omega)⟩
 obtain ⟨cur,t,f,hc,hc0⟩:=qM (s5 0 u hu)
 have hne:∀ g c n z,ρ[0]? = some (.row g c n z)->ad.block≠g:=fun g c n z hg e=>by
  have h2:Pd (cx G ρ w) (.fz (.nm .opn) m) (.slice (some ad) 1 k):=h2
  have h3:=Lc h2 (by rw [hm]; decide)
  exact h3.1.2.1 ⟨0,_,hg,by rw [e]; rfl⟩
 rw [gu] at hc
 refine (wA hs hR hH hl (by omega) h0 hm h2 hbv s5 s1 s2 s4 hne hc hc0).mono fun v w' ⟨ρ',k1,k2,k3⟩=>?_
 exact ⟨[v],rfl,ρ',k2,k1.ext,k1.bx,.cons k3 .nil,fun hb=>by cases hb⟩
theorem CY:(Builtin.zeroCells (Value.agg #[.int .i64 0,.int .i64 0]).cells 1).toList=[.int .i64 0,.int .i64 0]:=by kernel_rfl
set_option maxRecDepth 100000 in
set_option maxHeartbeats 1000000 in
theorem DD {w:World} {g n i c:Nat} {cur ds:List Value} {ti:TypeInfo} (hi:i<n) (hnc:n<=c) (hcm:c<=maxLen) (hg:w.heap[g]? = some (.cells cur.toArray 63 (0,0))) (hcur:n*2<=cur.length) (hdl:ds.length=(n - (i+1))*2) (hd:CellsAt w (if c=i+1 then ⟨g,0,none⟩ else (⟨g,0,none⟩:Addr).add ((i+1)*2)) ds) (h1d:∀ u ∈ ds,u.oneCell' = true)
  (hi0:Tryz.prog.info? 63=some ti) (hz0:ti.zero=some (.agg #[.int .i64 0,.int .i64 0])) (hz1:ti.size=2) :
  jm Tryz.prog 179 [.slice (some ⟨g,0,none⟩) n c,.int .i64 (i:Int),.int .i64 ((i+1:Nat):Int)].toArray w fun v w'=>v = .slice (some ⟨g,0,none⟩) (i+(n - (i+1))) c/\∃ w1,Kp [] w w1/\w' = (w1.setRow g (cur.take (i*ti.size)++ds++cur.drop (i*ti.size+ds.length)).toArray).setRow g ((cur.take (i*ti.size)++ds++cur.drop (i*ti.size+ds.length)).take ((i+(n - (i+1)))*2)++(Builtin.zeroCells (Value.agg #[.int .i64 0,.int .i64 0]).cells 1).toList++(cur.take (i*ti.size)++ds++cur.drop (i*ti.size+ds.length)).drop ((i+(n - (i+1)))*2+(Builtin.zeroCells (Value.agg #[.int .i64 0,.int .i64 0]).cells 1).toList.length)).toArray:=by
 have hcm:c<=9223372036854775807:=hcm
 refine jm.enter Tryz.func179 rfl rfl rfl rfl ?_
 refine WC.seq ?_
 refine WC.region ?_
 refine WO.v (R.assign rfl) rfl ?_
 refine WO.nil ?_
 refine WX.next ?_
 refine WC.seq ?_
 refine WC.region ?_
 refine WO.v (R.move rfl) rfl ?_
 refine WO.v (R.move rfl) rfl ?_
 refine WO.v (R.move rfl) rfl ?_
 refine WO.v (R.move rfl) rfl ?_
 refine WO.v (R.len rfl Tryz.underlying40) rfl ?_
 refine WO.v (R.slice3 rfl rfl rfl rfl Tryz.underlying40 cW (by omega) (by omega) (by omega)) rfl ?_
 refine WO.nil ?_
 refine WX.next ?_
 refine WC.seq ?_
 refine WC.seq ?_
 refine WC.region ?_
 refine WO.v (R.move rfl) rfl ?_
 refine WO.v (R.move rfl) rfl ?_
 refine WO.v (R.eql rfl rfl) rfl ?_
 refine WO.nil ?_
 refine WX.next ?_
 refine WC.cond rfl (fun q=>absurd (of_decide_eq_true q) (by omega)) (fun _=>?_)
 refine WC.skip ?_
 refine WX.next ?_
 refine WC.seq ?_
 refine WC.region ?_
 refine WO.v (R.move rfl) rfl ?_
 refine WO.v (R.len rfl Tryz.underlying40) rfl ?_
 refine WO.v (R.assign rfl) rfl ?_
 refine WO.nil ?_
 refine WX.next ?_
 refine WC.seq ?_
 refine WC.qN iK [.ex [] (.slice (some ⟨g,0,none⟩) n c),.ex [] (.int .i64 ((i:Nat):Int)),.ex [0,1] (.slice (some ⟨g,0*2,none⟩) (i - 0) (c - 0)),.ex [] (.slice (some ⟨g,0,none⟩) n c),.ex [] (.int .i64 ((i+1:Nat):Int)),.ex [3,4] (.slice (some (if c=i+1 then ⟨g,0,none⟩ else (⟨g,0,none⟩:Addr).add ((i+1)*2))) (n - (i+1)) (c - (i+1)))] 6 (by kernel_rfl) ⟨fun _ _ _ h _=>h,fun _ _ _ h _=>h,fun _ _ _ h _=>h,fun _ _ _ h _=>h,fun _ _ _ h _=>h,fun _ _ _ h _=>h,trivial⟩ ⟨?_,?_,?_,?_,?_,?_,trivial⟩ ?_
 ·rintro vs wd kd ⟨-⟩
  refine WO.bJ (fr':=[(0,.slice (some ⟨g,0,none⟩) n c)]) ⟨⟨_,rfl,rfl⟩,trivial⟩ ?_
  refine WO.v (R.move rfl) rfl ?_
  refine WO.nil ?_
  exact WX.aP rfl rfl (Kp.refl _)
 ·rintro vs wd kd ⟨-⟩
  refine WO.bJ (fr':=[(1,.int .i64 ((i:Nat):Int))]) ⟨⟨_,rfl,rfl⟩,trivial⟩ ?_
  refine WO.v (R.move rfl) rfl ?_
  refine WO.nil ?_
  exact WX.aP rfl rfl (Kp.refl _)
 ·rintro vs wd kd ⟨e0,e1,-⟩
  refine WO.bJ (fr':=[(20,.slice (some ⟨g,0,none⟩) n c),(21,.int .i64 ((i:Nat):Int))]) ⟨⟨_,rfl,e0⟩,⟨_,rfl,e1⟩,trivial⟩ ?_
  refine WO.v (R.lN rfl rfl Tryz.underlying40 cW (dX (i:=0) (by omega)) (by omega)) rfl ?_
  refine WO.nil ?_
  exact WX.aP rfl rfl (Kp.refl _)
 ·rintro vs wd kd ⟨-⟩
  refine WO.bJ (fr':=[(0,.slice (some ⟨g,0,none⟩) n c)]) ⟨⟨_,rfl,rfl⟩,trivial⟩ ?_
  refine WO.v (R.move rfl) rfl ?_
  refine WO.nil ?_
  exact WX.aP rfl rfl (Kp.refl _)
 ·rintro vs wd kd ⟨-⟩
  refine WO.bJ (fr':=[(2,.int .i64 ((i+1:Nat):Int))]) ⟨⟨_,rfl,rfl⟩,trivial⟩ ?_
  refine WO.v (R.move rfl) rfl ?_
  refine WO.nil ?_
  exact WX.aP rfl rfl (Kp.refl _)
 ·rintro vs wd kd ⟨e3,e4,-⟩
  refine WO.bJ (fr':=[(23,.slice (some ⟨g,0,none⟩) n c),(24,.int .i64 ((i+1:Nat):Int))]) ⟨⟨_,rfl,e3⟩,⟨_,rfl,e4⟩,trivial⟩ ?_
  refine WO.v (R.cK rfl rfl Tryz.underlying40 cW MH (by omega)) rfl ?_
  refine WO.nil ?_
  exact WX.aP rfl rfl (Kp.refl _)
 rintro vsx w1 k1 ⟨-,-,e2,-,-,e5,-⟩
 replace k1:Kp [] w w1:=k1
 refine WO.bJ (fr':=[(22,.slice (some ⟨g,0*2,none⟩) (i - 0) (c - 0)),(25,.slice (some (if c=i+1 then ⟨g,0,none⟩ else (⟨g,0,none⟩:Addr).add ((i+1)*2))) (n - (i+1)) (c - (i+1))),(7,.int .i64 ((n:Nat):Int))]) ⟨⟨_,rfl,e2⟩,⟨_,rfl,e5⟩,⟨_,rfl,rfl⟩,trivial⟩ ?_
 have hg1:w1.heap[g]? = some (.cells (List.toArray cur) 63 (0,0)):=by rw [k1.block g (bg hg) (by simp)]; exact hg
 have hd1:CellsAt w1 (if c=i+1 then ⟨g,0,none⟩ else (⟨g,0,none⟩:Addr).add ((i+1)*2)) ds:=hd.keep (k1.block _ (by split <;> exact bg hg) (by simp))
 refine WO.v (R.Is (sl:=i) (sc:=c) rfl rfl Tryz.underlying40 hi0 hg1 (by rw [hz1]; exact hdl) hd1 h1d (by omega) (by rw [hz1]; omega)) rfl ?_
 refine WO.v (R.assign rfl) rfl ?_
 refine WO.nil ?_
 refine WX.next ?_
 have hg2:=setRow_heap w1 g _ (cur.take (i*ti.size)++ds++cur.drop (i*ti.size+ds.length)).toArray 63 _ hg1
 refine WC.seq ?_
 refine WC.region ?_
 refine WO.v (R.move rfl) rfl ?_
 refine WO.v (R.move rfl) rfl ?_
 refine WO.v (R.len rfl Tryz.underlying40) rfl ?_
 refine WO.v (R.move rfl) rfl ?_
 refine WO.v (R.yT rfl rfl rfl Tryz.underlying40 cW (dX (by omega)) (by omega) (by omega)) rfl ?_
 refine WO.v0 (R.Tb rfl (by omega) Tryz.underlying40 hi0 hz0 (by rw [CY]; simp [Value.oneCell']) hg2 (by rw [nS,hz1]; simp only [List.length_append,List.length_take,List.length_drop]; show _+1*2<=_; omega)) ?_
 refine WO.nil ?_
 refine WX.next ?_
 refine WC.seq ?_
 refine WC.region ?_
 refine WO.v (R.move rfl) rfl ?_
 refine WO.v (R.assign rfl) rfl ?_
 refine WO.nil ?_
 refine WX.next ?_
 refine WC.ret ?_
 refine WX.wM rfl rfl ?_
 exact ⟨rfl,w1,k1,rfl⟩
theorem tH (i j:Int) (l:List (den (.nm .opn))) (h:0<=i/\i<(l.length:Int)/\j=i+1):Sat Tryz.prog (ao aF) 179 [.c (.own 0),.c (.int i),.c (.int j)] [.row 63 (.nm .opn) l] ⟨[0<=i/\i<(l.length:Int)/\j=i+1],[.c (.own 0)],some [.row 63 (.nm .opn) (l.take i.toNat++l.drop j.toNat)],false⟩:=by
 refine ⟨⟨_,Tryz.func179,by decide,rfl⟩,fun G ρ w vs hs hR hvs=>?_⟩
 obtain ⟨hi0,hi1,rfl⟩:=h
 obtain ⟨i,rfl⟩:=Int.eq_ofNat_of_zero_le hi0
 have hlt:i<l.length:=by omega
 cases hvs with | cons h0 hvs=>
 cases hvs with | cons h1 hvs=>
 cases hvs with | cons h2 hvs=>
 cases hvs
 have h1:Pd (cx G ρ w) (.int (i:Int)) _:=h1
 have h2:Pd (cx G ρ w) (.int ((i:Int)+1)) _:=h2
 cases h1
 cases h2
 have h0:Rd (cx G ρ w) ρ (.own 0) _:=h0
 have hH:getO [AO.row 63 (.nm .opn) l] 0 = .row 63 (.nm .opn) l:=rfl
 obtain ⟨hshp,hlen⟩:=dK hR hH
 rcases bK hR hH with ⟨_,h2⟩ | ⟨g,cap,cells,sp,hρ,hg,hpd,hsz,hcap,hmax⟩
 ·subst h2; simp at hlt
 obtain ⟨hnb,hil,hiH⟩:=mF hR hH
 have hz:(Sh.nm NT.opn).size=2:=rfl
 have hby:(Sh.nm NT.opn).bytes=16:=rfl
 have hcl:cells.length=l.length*2:=by rw [<- hpd.length,b_,hz]
 rw [hz,List.length_append] at hsz
 rw [hby] at hlen
 obtain ⟨ti,hi0,hz0,hz1,hz2⟩:=info_parts xV
 have hone:∀ u ∈ cells.drop ((i+1)*2),u.oneCell' = true:=fun u hu=>hpd.Dy u (List.mem_of_mem_drop hu)
 have hd:CellsAt w (if cap=i+1 then ⟨g,0,none⟩ else (⟨g,0,none⟩:Addr).add ((i+1)*2)) (cells.drop ((i+1)*2)):=by
  split
  ·rw [List.drop_of_length_le (by omega)]; exact CellsAt.nil
  ·exact (cC hg).shift _
 have hv0:∀ v,Rd (cx G ρ w) ρ (.own 0) v->v = .slice (some ⟨g,0,none⟩) l.length cap:=fun v h0=>by
  rcases h0 with ⟨g',cap',len,z,h1,rfl⟩ | ⟨h1,a,rfl⟩
  ·rw [hρ] at h1; cases h1; rfl
  ·rw [hρ] at h1; cases h1
 obtain rfl:=hv0 _ h0
 have e0:((i:Int)+1)=((i+1:Nat):Int):=by omega
 rw [e0]
 refine (DD hlt hcap hmax hg (by rw [List.length_append]; omega) (by rw [List.length_drop,hcl]; omega) hd hone hi0 hz0 hz1).mono fun v w' ⟨e1,w1,k1,e2⟩=>?_
 subst e1
 have hq:i+(l.length - (i+1))=l.length - 1:=by omega
 rw [hq,hz1,CY] at e2
 rw [hq]
 have hzl:(l.take i++l.drop (i+1)).length=l.length - 1:=by rw [List.length_append,List.length_take,List.length_drop]; omega
 have hnl:(cells.take (i*2)++cells.drop ((i+1)*2)).length=(l.length - 1)*2:=by rw [List.length_append,List.length_take,List.length_drop]; omega
 have htk:((cells++sp).take (i*2)++cells.drop ((i+1)*2)++(cells++sp).drop (i*2+(cells.drop ((i+1)*2)).length)).take ((l.length - 1)*2)=cells.take (i*2)++cells.drop ((i+1)*2):=by
  rw [List.take_append_of_le_length (l₁:=cells) (by omega)]
  exact List.take_left' hnl
 have hr1l:((cells++sp).take (i*2)++cells.drop ((i+1)*2)++(cells++sp).drop (i*2+(cells.drop ((i+1)*2)).length)).length=cap*2:=by
  simp only [List.length_append,List.length_drop,List.length_take]
  omega
 generalize (cells++sp).take (i*2)++cells.drop ((i+1)*2)++(cells++sp).drop (i*2+(cells.drop ((i+1)*2)).length)=r1 at e2 htk hr1l
 rw [htk,List.append_assoc] at e2
 generalize hsp2:([.int .i64 0,.int .i64 0]:List Value)++List.drop ((l.length - 1)*2+([.int .i64 0,.int .i64 0]:List Value).length) r1=sp2 at e2
 have hlen2:(l.length - 1)*2+sp2.length=cap*2:=by
  rw [<- hsp2]
  simp only [List.length_append,List.length_cons,List.length_nil,List.length_drop]
  omega
 have hg1:w1.heap[g]? = some (.cells (List.toArray (cells++sp)) 63 (0,0)):=by rw [k1.block g (bg hg) (by simp)]; exact hg
 have hh:=setRow_heap _ g _ (cells.take (i*2)++cells.drop ((i+1)*2)++sp2).toArray 63 _ (setRow_heap w1 g _ r1.toArray 63 _ hg1)
 have hk:=((k1.sub (T:=[g]) (by simp)).step (Kp.setRow w1 g r1.toArray) (by simp)).step (Kp.setRow _ g (cells.take (i*2)++cells.drop ((i+1)*2)++sp2).toArray) (by simp)
 subst e2
 obtain ⟨k2,k3,_⟩:=kU (ro:=AE 0) (s':=.nm .opn) (e':=63) (zs:=l.take i++l.drop (i+1)) hR hH ⟨rfl,rfl⟩ hk (fun b hb=>⟨_,hρ,by rw [List.mem_singleton] at hb; subst hb; rfl⟩) (r':=.row g cap (l.take i++l.drop (i+1)).length (Sh.nm NT.opn).size) (fun b hb=>by
  cases hb; exact .inl ⟨_,hρ,rfl⟩) (fun hle=>⟨hshp,by rw [hzl,hby]; omega,.inr ⟨g,cap,_,sp2,rfl,hh,by
   rw [List.flatMap_append]; exact ((bW hpd i).append (cm hpd (i+1))).carry hle,by rw [List.length_append,hnl,hz]; exact hlen2,by omega,hmax⟩⟩)
 exact ⟨[_],rfl,_,k3,k2.ext,k2.bx,.cons (.inl ⟨g,cap,_,_,List.getElem?_set_self hil,by rw [hzl]⟩) .nil,fun hb=>by cases hb⟩
end Go.Proofs.YtladifkbefehdaaGreat
namespace Go.Proofs.YtladifkbefehdaaGreat
open Go.RowKit
def oz {β:Type} (z:β) (k:Int):List (Int × β)->β
 | []=>z
 | p :: r=>if k=p.1 then p.2 else oz z k r
end Go.Proofs.YtladifkbefehdaaGreat
namespace Go.Proofs.YtladifkbefehdaaGreat
open Go.RowKit
theorem aB {α:Type} {l:List α} {k:Nat} {x:α} (hx:l[k]? = some x):l.take (k+1)=l.take k++[x]:=by
 rw [List.take_add_one,hx]; rfl
end Go.Proofs.YtladifkbefehdaaGreat
namespace Go.Proofs.YtladifkbefehdaaGreat
open Go.RowKit
end Go.Proofs.YtladifkbefehdaaGreat
namespace Go.Proofs.YtladifkbefehdaaGreat
open Go.RowKit
def bE (n a b:Int):Bool:=decide (a<=n) && decide (n<=b)
def aC {α:Type} (key:α->Int) (most:Int):Int->List α->Bool
 | _,[]=>true
 | a,x :: r=>bE (key x) (a+1) most && aC key most (key x) r
def bH {α:Type} (key:α->Int) (a:Int) (l:List α):Int:=l.foldl (fun _ x=>key x) a
theorem fS {α:Type} {key:α->Int} {most:Int} {x:α}:∀ (p:List α) (a:Int),aC key most a (p++[x])=(aC key most a p && bE (key x) (bH key a p+1) most)
 | [],a=>by simp [aC,bH]
 | y :: p,a=>by
  rw [List.cons_append,aC,aC,fS p,Bool.and_assoc]; rfl
theorem jr {α:Type} {key:α->Int} {most:Int} (q:List α):∀ (p:List α) (a:Int),aC key most a (p++q)=true->aC key most a p=true
 | [],a,_=>rfl
 | y :: p,a,h=>by
  rw [List.cons_append,aC,Bool.and_eq_true] at h
  rw [aC,Bool.and_eq_true]
  exact ⟨h.1,jr q p _ h.2⟩
theorem cg {α:Type} {key:α->Int} {a:Int} {l:List α} {k:Nat} {x:α} (hx:l[k]? = some x):key x=bH key a (l.take (k+1)):=by
 rw [aB hx,bH,List.foldl_append]; rfl
theorem oR {α:Type} {key:α->Int} {a:Int} {l:List α} {k:Nat} {x:α} (h:0<k) (hx:l[k - 1]? = some x):bH key a (l.take k)=key x:=by
 obtain ⟨j,rfl⟩:∃ j,k=j+1:=⟨k - 1,by omega⟩
 exact (cg (by simpa using hx)).symm
theorem iu {α:Type} {key:α->Int} {most a:Int} {l:List α} {k:Nat} {x:α} (h:aC key most a (l.take k)=true) (hx:l[k]? = some x) (h1:bH key a (l.take k)<key x) (h2:key x<=most):aC key most a (l.take (k+1))=true:=by
 rw [aB hx,fS,h,Bool.true_and,bE,Bool.and_eq_true,decide_eq_true_eq,decide_eq_true_eq]
 exact ⟨by omega,h2⟩
theorem mU {α:Type} {key:α->Int} {most a:Int} {l:List α} {k:Nat} {x:α} (hx:l[k]? = some x) (h:¬ (bH key a (l.take k)<key x/\key x<=most)):aC key most a l=false:=by
 cases hr:aC key most a l with
 | false=>rfl
 | true=>
  have h1:=jr (l.drop (k+1)) (l.take (k+1)) a (by rw [List.take_append_drop]; exact hr)
  rw [aB hx,fS,Bool.and_eq_true,bE,Bool.and_eq_true,decide_eq_true_eq,decide_eq_true_eq] at h1
  exact absurd ⟨by omega,h1.2.2⟩ h
theorem iC {α:Type} {key:α->Int} {most a:Int} {l:List α} {k:Nat} (h:aC key most a (l.take k)=true) (hk:l.length<=k):aC key most a l=true:=by
 rwa [List.take_of_length_le hk] at h
def rowF (l:List Int):Bool:=(decide ((1:Int)<=((l.length:Nat):Int)) && decide (((l.length:Nat):Int)<=8)) && aC id 64 0 l
theorem jd {l:List Int} {k:Nat} {x:Int} (hx:l[k]? = some x) (h:¬ (bH id 0 (l.take k)<x/\x<=64)):false=rowF l:=by
 rw [rowF,mU (key:=id) hx h,Bool.and_false]
theorem mu {l:List Int} {k:Nat} (h:aC id 64 0 (l.take k)=true) (hk:l.length<=k):(decide ((1:Int)<=((l.length:Nat):Int)) && decide (((l.length:Nat):Int)<=8))=rowF l:=by
 rw [rowF,iC h hk,Bool.and_true]
theorem zS {l:List Int} {k:Nat} (h:aC id 64 0 (l.take k)=true):0<=bH id 0 (l.take k):=by
 by_cases hk:k=0
 ·subst hk; exact Int.le_refl _
 ·by_cases hl:k - 1<l.length
  ·have hx:=List.getElem?_eq_getElem hl
   rw [oR (by omega) hx]
   have e:l.take k=l.take (k - 1)++[l[k - 1]]:=by
    have:=aB hx
    rwa [show k - 1+1=k by omega] at this
   rw [e,fS,Bool.and_eq_true,bE,Bool.and_eq_true,decide_eq_true_eq] at h
   have h0:∀ (p:List Int) (a:Int),0<=a->aC id 64 a p=true->0<=bH id a p:=by
    intro p
    induction p with
    | nil=>intro a ha _; exact ha
    | cons y p ih=>
     intro a ha hp
     rw [aC,Bool.and_eq_true,bE,Bool.and_eq_true,decide_eq_true_eq] at hp
     exact ih (id y) (by omega) hp.2
   have:=h0 _ _ (Int.le_refl 0) h.1
   omega
  ·have h0:∀ (p:List Int) (a:Int),0<=a->aC id 64 a p=true->0<=bH id a p:=by
    intro p
    induction p with
    | nil=>intro a ha _; exact ha
    | cons y p ih=>
     intro a ha hp
     rw [aC,Bool.and_eq_true,bE,Bool.and_eq_true,decide_eq_true_eq] at hp
     exact ih (id y) (by omega) hp.2
   exact h0 _ _ (Int.le_refl 0) h
theorem jP {l:List Int} {k:Nat} (h:aC id 64 0 (l.take k)=true) (hk:l.length<=k) (hl:1<=l.length/\l.length<=8):true=rowF l:=by
 rw [rowF,iC h hk,Bool.and_true]; symm; rw [Bool.and_eq_true,decide_eq_true_eq,decide_eq_true_eq]; omega
theorem oC {l:List Int} (hl:¬ (1<=l.length/\l.length<=8)):false=rowF l:=by
 symm
 rw [rowF,Bool.and_eq_false_iff]; left
 rw [Bool.and_eq_false_iff,decide_eq_false_iff_not,decide_eq_false_iff_not]; omega
end Go.Proofs.YtladifkbefehdaaGreat
namespace Go.Proofs.YtladifkbefehdaaGreat
open Go.RowKit
def cE (x:Sess):Bool:=(bE x.seq 0 1048576 && bE x.last.code 0 99) && bE x.last.n 0 1048576
def cN (x:Opn):Bool:=bE x.client 1 8
theorem ei {α:Type} {p:α->Bool} {l:List α} {k:Nat} {x:α} (h:(l.take k).all p=true) (hx:l[k]? = some x) (hp:p x=true):(l.take (k+1)).all p=true:=by
 rw [aB hx,List.all_append,h]; simp [hp]
theorem BZ {α:Type} {p:α->Bool} {l:List α} {k:Nat} {x:α} (hx:l[k]? = some x) (hp:p x=false):l.all p=false:=by
 rw [List.all_eq_false]; exact ⟨x,List.mem_of_getElem? hx,by simp [hp]⟩
theorem Ct {α:Type} {p:α->Bool} {l:List α} {k:Nat} (h:(l.take k).all p=true) (hk:l.length<=k):l.all p=true:=by
 rwa [List.take_of_length_le hk] at h
end Go.Proofs.YtladifkbefehdaaGreat
namespace Go.Proofs.YtladifkbefehdaaGreat
open Go.RowKit
def ba (n:Nat):Nat:=if h:n<128 then 1 else ba (n / 128)+1
termination_by n
decreasing_by omega
theorem jz {n:Nat} (h:¬ n<128):ba n=ba (n / 128)+1:=by rw [ba,dif_neg h]
theorem gZ {n:Nat} (h:n<128):ba n=1:=by rw [ba,dif_pos h]
theorem fa (n:Nat):1<=ba n:=by rw [ba]; split <;> omega
theorem vF:∀ (k n:Nat),n<128 ^ (k+1)->ba n<=k+1
 | 0,n,h=>by rw [gZ (by simpa using h)]; omega
 | k+1,n,h=>by
  by_cases hn:n<128
  ·rw [gZ hn]; omega
  ·rw [jz hn]
   have:=vF k (n / 128) (by rw [Nat.div_lt_iff_lt_mul (by omega),<- Nat.pow_succ]; exact h)
   omega
theorem od {n:Nat} (h:n<18446744073709551616):ba n<=10:=vF 9 n (Nat.lt_of_lt_of_le h (by decide))
def jk (n i:Nat):UInt8:=UInt8.ofNat (n / 128 ^ i) ||| 128
def dY (n k:Nat):List UInt8:=(List.range k).map (jk n)++List.replicate (ba n - k) 0
def bq (n:Nat):List UInt8:=(dY n (ba n)).set (ba n - 1) (jk n (ba n - 1) &&& 127)
theorem gw {n k:Nat} (h:k<=ba n):(dY n k).length=ba n:=by simp [dY]; omega
theorem wm {n k:Nat} (h:k<ba n):(dY n k).set k (jk n k)=dY n (k+1):=by
 unfold dY
 rw [List.set_append_right _ _ (by simp),List.range_succ,List.map_append,List.append_assoc]
 congr 1
 obtain ⟨j,hj⟩:∃ j,ba n - k=j+1:=⟨ba n - k - 1,by omega⟩
 rw [hj,show ba n - (k+1)=j by omega]
 simp [List.replicate_succ]
theorem jU (n:Nat):List.replicate (ba n) (0:UInt8)=dY n 0:=by simp [dY]
theorem wc {n:Nat} {x:UInt8} (h:(dY n (ba n))[ba n - 1]? = some x):x=jk n (ba n - 1):=by
 have hp:=fa n
 unfold dY at h
 rw [List.getElem?_append_left (by simp; omega)] at h
 simp only [List.getElem?_map,List.getElem?_range (show ba n - 1<ba n by omega),Option.map_some,Option.some.injEq] at h
 exact h.symm
theorem div_pow {n k:Nat}:n / 128 ^ k / 2 ^ 7=n / 128 ^ (k+1):=by show n / 128 ^ k / 128=_; rw [Nat.div_div_eq_div_mul,Nat.pow_succ]
theorem vf (n:Nat):(bq n).length=ba n:=by rw [bq,List.length_set,gw (Nat.le_refl _)]
theorem cT {n:Nat} (h:n<18446744073709551616):(bq n).length<=10:=by rw [vf]; exact od h
def dE (l:List Int):List UInt8:=l.flatMap fun x=>bq x.toNat
theorem fb {l:List Int} {k:Nat} {x:Int} (hx:l[k]? = some x):dE (l.take k)++bq x.toNat=dE (l.take (k+1)):=by
 rw [aB hx]; simp [dE]
theorem Ei {l:List Int} (h:∀ x ∈ l,x<=64):(dE l).length<=10*l.length:=by
 induction l with
 | nil=>simp [dE]
 | cons a l ih=>
  have h1:=ih fun x hx=>h x (List.mem_cons_of_mem _ hx)
  have h2:=cT (n:=a.toNat) (by have:=h a (by simp); omega)
  simp only [dE,List.flatMap_cons,List.length_append,List.length_cons] at *
  omega
theorem jT {l:List Int} (h:rowF l=true):∀ x ∈ l,0<x/\x<=64:=by
 rw [rowF,Bool.and_eq_true] at h
 have:∀ (l:List Int) (a:Int),0<=a->aC id 64 a l=true->∀ x ∈ l,0<x/\x<=64:=by
  intro l
  induction l with
  | nil=>intro a _ _ x hx; cases hx
  | cons y l ih=>
   intro a ha hl x hx
   rw [aC,Bool.and_eq_true,bE,Bool.and_eq_true,decide_eq_true_eq,decide_eq_true_eq] at hl
   have h1:a+1<=y:=hl.1.1
   have h2:y<=64:=hl.1.2
   rcases List.mem_cons.1 hx with rfl | hx
   ·omega
   ·exact ih (id y) (by show 0<=y; omega) hl.2 x hx
 exact this l 0 (by omega) h.2
theorem yo {l:List Int} (h:rowF l=true):1<=l.length/\l.length<=8:=by
 rw [rowF,Bool.and_eq_true,Bool.and_eq_true,decide_eq_true_eq,decide_eq_true_eq] at h
 omega
def bu (l:List Int):List UInt8:=if rowF l then dE l else []
def dm (l:List Int):Int:=if rowF l then 0 else 1
theorem gB {l:List Int} {k:Nat} (hr:rowF l=true) (hk:l.length<=k):dE (l.take k)=bu l:=by rw [List.take_of_length_le hk,bu,if_pos hr]
theorem dJ {l:List Int} (hr:rowF l=false):[]=bu l:=by rw [bu,hr]; rfl
theorem ea {l:List Int} (hr:rowF l=true):0=dm l:=by rw [dm,hr]; rfl
theorem dV {l:List Int} (hr:rowF l=false):1=dm l:=by rw [dm,hr]; rfl
end Go.Proofs.YtladifkbefehdaaGreat
namespace Go.Proofs.YtladifkbefehdaaGreat
open Go.RowKit
def ct (v t:Int) (x:Snap):Bool:=((decide (dm x.chunks=0) && bE x.set 1 8) && (!x.held || decide (2<=v))) && decide (((x.tag.b.length:Nat):Int)<=t)
def ra (v:Int):Int:=if v<3 then 0 else 16
def ft (s:State) (v:Int):Bool:=!(decide (16<((s.snaps.length:Nat):Int)) || !(aC Snap.id (s.next - 1) 0 s.snaps)) && s.snaps.all (ct v (ra v))
def ij (s:State) (v:Int):Bool:=((bE s.version 1 3 && bE s.next 1 1048576) && bE s.keep 0 8) && bE s.quota 0 (if v<3 then 0 else 64)
def uO (s:State):Bool:=aC Sess.client 8 0 s.sess && s.sess.all cE
def qT (s:State):Bool:=aC Opn.set 8 0 s.opens && s.opens.all cN
def mayF (s:State) (v:Int):Int:=if !(bE v 1 3) then 1 else if (((!ij s v || !uO s) || !qT s) || !ft s v) then 6 else 0
end Go.Proofs.YtladifkbefehdaaGreat
namespace Go.Proofs.YtladifkbefehdaaGreat
open Go.RowKit
end Go.Proofs.YtladifkbefehdaaGreat
namespace Go.Proofs.YtladifkbefehdaaGreat
open Go.RowKit
end Go.Proofs.YtladifkbefehdaaGreat
namespace Go.Proofs.YtladifkbefehdaaGreat
open Go.RowKit
end Go.Proofs.YtladifkbefehdaaGreat
namespace Go.Proofs.YtladifkbefehdaaGreat
open Go.RowKit
def aQ (k:Int):Int:=oz 0 k [((1:Int),(1:Int)),((2:Int),(1:Int)),((3:Int),(1:Int)),((4:Int),(1:Int)),((5:Int),(1:Int)),((6:Int),(1:Int)),((7:Int),(1:Int)),((8:Int),(1:Int)),((9:Int),(2:Int)),((10:Int),(2:Int)),((11:Int),(3:Int)),((12:Int),(3:Int))]
theorem HA {k:Int} (h:1<=k/\k<=12):aQ k=if k<=8 then 1 else if k<=10 then 2 else 3:=by
 have:k=1\/k=2\/k=3\/k=4\/k=5\/k=6\/k=7\/k=8\/k=9\/k=10\/k=11\/k=12:=by omega
 rcases this with rfl | rfl | rfl | rfl | rfl | rfl | rfl | rfl | rfl | rfl | rfl | rfl <;> rfl
theorem yM {k:Int} (h:¬ (1<=k/\k<=12)):aQ k=0:=by
 unfold aQ
 simp only [oz]
 repeat rw [if_neg (by omega)]
theorem vS {n a b:Int} (h:bE n a b=true):a<=n/\n<=b:=by unfold bE at h; rw [Bool.and_eq_true,decide_eq_true_eq,decide_eq_true_eq] at h; exact h
theorem SG {n a b:Int} (h:bE n a b=false):¬ (a<=n/\n<=b):=fun h2=>by
 have:bE n a b=true:=by unfold bE; rw [Bool.and_eq_true,decide_eq_true_eq,decide_eq_true_eq]; exact h2
 rw [h] at this; cases this
def GD (c:Command):Command:={ c with chunks:=c.chunks.take 12,text:=c.text.cut 0 40 }
def eU (c:Command) (v:Int):Command:={ c with text:=if v<3 then ⟨[]⟩ else c.text }
def gl (x:Int) (l:List Int):Int:=match l.findIdx? (fun y=>decide (x=y)) with | some i=>(i:Int) | none=>-1
theorem Fh {x y:Int} {l:List Int} {k:Nat} (h:∀ j y,j<k->l[j]? = some y->¬ x=y) (hy:l[k]? = some y) (hxy:x=y):(k:Int)=gl x l:=by
 have:l.findIdx? (fun y=>decide (x=y))=some k:=by
  obtain ⟨hk,rfl⟩:=List.getElem?_eq_some_iff.1 hy
  rw [List.findIdx?_eq_some_iff_getElem]
  exact ⟨hk,decide_eq_true hxy,fun j hj=>by simpa using h j _ hj (List.getElem?_eq_getElem (by omega))⟩
 simp [gl,this]
theorem yB (x:Int) (l:List Int):decide (0<=gl x l)=l.contains x:=by
 unfold gl
 cases h:l.findIdx? (fun y=>decide (x=y)) with
 | none=>
  rw [List.findIdx?_eq_none_iff] at h
  have:l.contains x=false:=by
   rw [<- Bool.not_eq_true,List.contains_iff_mem]
   intro hm; have:=h x hm; simp at this
  rw [this]; rfl
 | some i=>
  rw [List.findIdx?_eq_some_iff_getElem] at h
  obtain ⟨hi,hp,_⟩:=h
  have:l.contains x=true:=by
   rw [List.contains_iff_mem,of_decide_eq_true hp]; exact List.getElem_mem hi
  rw [this]; simp
def jl (n most:Int) (named:Bool):Bool:=if named then (decide (1<=n) && decide (n<=most)) else decide (n=0)
def iN (k:Int):Int × Int:=oz (0,0) k [((6:Int),((0:Int),(8:Int))),((8:Int),((2:Int),(3:Int))),((12:Int),((0:Int),(64:Int)))]
def xc (c:Command):Bool:=if c.kind=3 then rowF c.chunks else decide (((c.chunks.length:Nat):Int)=0)
def OW (c:Command):Bool:=if c.kind=11 then decide (((c.text.b.length:Nat):Int)<=16) else decide (c.text=⟨[]⟩)
def eE (c:Command):Bool:=((((((((decide ((iN c.kind).1<=c.n) && decide (c.n<=(iN c.kind).2)) && xc c) && OW c) && jl c.client 8 (!([(8:Int)].contains c.kind))) && jl c.seq 1048576 (!([(1:Int),8].contains c.kind))) && jl c.set 8 ([(2:Int),3,4].contains c.kind)) && jl c.id 1048576 ([(5:Int),7,9,10,11].contains c.kind)))
def aX (c:Command) (v:Int):Int:=if !(bE v 1 3) || decide (aQ c.kind=0) then 1 else if v<aQ c.kind then 10 else if !eE c then 1 else 0
end Go.Proofs.YtladifkbefehdaaGreat
namespace Go.Proofs.YtladifkbefehdaaGreat
open Go.RowKit
def KL (n:Int) (used:Bool) (lo hi:Int):Bool:=if used then (decide (lo<=n) && decide (n<=hi)) else decide (n=0)
def kr (k:Int):Int × Int:=(if k=8 then 2 else 0,if k=8 then 3 else if k=12 then 64 else 8)
theorem xM {s:Str}:decide (((s.b.length:Nat):Int)=0)=decide (s=⟨[]⟩):=by
 cases s with | mk b=>
 cases b with
 | nil=>simp
 | cons a t=>rw [Bool.eq_iff_iff]; simp; omega
theorem tn {k:Int}:(!decide (k=8))=(!([(8:Int)].contains k)):=by
 rw [Bool.eq_iff_iff]; simp
theorem BM {k:Int}:(!decide (k=8) && !decide (k=1))=(!([(1:Int),8].contains k)):=by
 rw [Bool.eq_iff_iff]; simp; omega
theorem BB {k:Int}:(decide (2<=k) && decide (k<=4))=([(2:Int),3,4].contains k):=by
 rw [Bool.eq_iff_iff]; simp; omega
theorem Ic {k:Int}:((decide (k=5) || decide (k=7)) || (decide (9<=k) && decide (k<=11)))=([(5:Int),7,9,10,11].contains k):=by
 rw [Bool.eq_iff_iff]; simp; omega
theorem Ow {k n:Int}:KL n ((decide (k=6) || decide (k=8)) || decide (k=12)) (kr k).1 (kr k).2=(decide ((iN k).1<=n) && decide (n<=(iN k).2)):=by
 by_cases h6:k=6
 ·subst h6; rfl
 by_cases h8:k=8
 ·subst h8; rfl
 by_cases h12:k=12
 ·subst h12; rfl
 have e:iN k=(0,0):=by simp [iN,oz,h6,h8,h12]
 rw [e,Bool.eq_iff_iff]
 simp [KL,h6,h8,h12]
 omega
theorem Mq {c:Command}:(decide (((c.text.b.length:Nat):Int)=0) || (decide (c.kind=11) && decide (((c.text.b.length:Nat):Int)<=16)))=OW c:=by
 unfold OW
 by_cases h:c.kind=11
 ·rw [if_pos h,Bool.eq_iff_iff]; simp only [Bool.or_eq_true,Bool.and_eq_true,decide_eq_true_eq,h,true_and]; omega
 ·rw [if_neg h,xM]; simp [h]
theorem Rw {n m:Int} {u:Bool}:KL n u 1 m=jl n m u:=rfl
theorem Cz {c:Command} :
  ((((((KL c.client (!decide (c.kind=8)) 1 8 && KL c.seq (!decide (c.kind=8) && !decide (c.kind=1)) 1 1048576) && KL c.set (decide (2<=c.kind) && decide (c.kind<=4)) 1 8) &&
   KL c.id ((decide (c.kind=5) || decide (c.kind=7)) || (decide (9<=c.kind) && decide (c.kind<=11))) 1 1048576) &&
   KL c.n ((decide (c.kind=6) || decide (c.kind=8)) || decide (c.kind=12)) (kr c.kind).1 (kr c.kind).2) && xc c) &&
   (decide (((c.text.b.length:Nat):Int)=0) || (decide (c.kind=11) && decide (((c.text.b.length:Nat):Int)<=16))))=eE c:=by
 rw [BM,tn,BB,Ic,Ow,Mq]
 unfold eE
 simp only [Rw]
 ac_rfl
theorem PJ {c:Command} {v:Int} (h:(!(bE v 1 3) || decide (aQ c.kind=0))=true):1=aX c v:=by rw [aX,if_pos h]
theorem NO {c:Command} {v:Int} (h:(!(bE v 1 3) || decide (aQ c.kind=0))=false) (h2:v<aQ c.kind):10=aX c v:=by rw [aX,h,if_neg (by decide),if_pos h2]
theorem Li {c:Command} {v:Int} (h:(!(bE v 1 3) || decide (aQ c.kind=0))=false) (h2:¬ v<aQ c.kind) (h3:(!eE c)=true):1=aX c v:=by rw [aX,h,if_neg (by decide),if_neg h2,if_pos h3]
theorem QJ {c:Command} {v:Int} (h:(!(bE v 1 3) || decide (aQ c.kind=0))=false) (h2:¬ v<aQ c.kind) (h3:(!eE c)=false):0=aX c v:=by rw [aX,h,if_neg (by decide),if_neg h2,h3,if_neg (by decide)]
end Go.Proofs.YtladifkbefehdaaGreat
namespace Go.Proofs.YtladifkbefehdaaGreat
open Go.RowKit
def na (c:Command):Bool:=(((bE c.client 0 1048576 && bE c.seq 0 1048576) && bE c.set 0 1048576) && bE c.id 0 1048576) && bE c.n 0 1048576
def cJ (c:Command) (v:Int):Bool:=(((bE c.kind 1 99 && (decide (aQ c.kind=0) || decide (v<aQ c.kind))) && na c) && (decide (((c.chunks.length:Nat):Int)=0) || rowF c.chunks)) && (decide (((c.text.b.length:Nat):Int)=0) || (decide (3<=v) && decide (((c.text.b.length:Nat):Int)<=16)))
theorem oO {c:Command} {v:Int} (h:((c.kind<1\/99<c.kind)\/(¬ aQ c.kind=0/\aQ c.kind<=v))):false=cJ c v:=by
 have:(bE c.kind 1 99 && (decide (aQ c.kind=0) || decide (v<aQ c.kind)))=false:=by
  rw [<- Bool.not_eq_true]; simp only [bE,Bool.and_eq_true,Bool.or_eq_true,decide_eq_true_eq]; omega
 unfold cJ; rw [this]; rfl
theorem HS {c:Command} {v:Int} (h:(c.client<0\/1048576<c.client)\/(c.seq<0\/1048576<c.seq)\/(c.set<0\/1048576<c.set)\/(c.id<0\/1048576<c.id)\/(c.n<0\/1048576<c.n)):false=cJ c v:=by
 have:na c=false:=by
  rw [<- Bool.not_eq_true]; unfold na; simp only [bE,Bool.and_eq_true,decide_eq_true_eq]; omega
 unfold cJ; rw [this,Bool.and_false]; rfl
theorem rb {c:Command} {v:Int} (h:0<((c.chunks.length:Nat):Int)/\rowF c.chunks=false):false=cJ c v:=by
 have:(decide (((c.chunks.length:Nat):Int)=0) || rowF c.chunks)=false:=by
  rw [h.2,Bool.or_false]; exact decide_eq_false (by omega)
 unfold cJ; rw [this,Bool.and_false]; rfl
theorem zf {c:Command} {v:Int} (h1:¬ ((c.kind<1\/99<c.kind)\/(¬ aQ c.kind=0/\aQ c.kind<=v))) (h2:¬ ((c.client<0\/1048576<c.client)\/(c.seq<0\/1048576<c.seq)\/(c.set<0\/1048576<c.set)\/(c.id<0\/1048576<c.id)\/(c.n<0\/1048576<c.n)))
  (h3:(¬ (0<((c.chunks.length:Nat):Int)))\/rowF c.chunks=true):cJ c v=(decide (((c.text.b.length:Nat):Int)=0) || (decide (3<=v) && decide (((c.text.b.length:Nat):Int)<=16))):=by
 have e1:(bE c.kind 1 99 && (decide (aQ c.kind=0) || decide (v<aQ c.kind)))=true:=by
  simp only [bE,Bool.and_eq_true,Bool.or_eq_true,decide_eq_true_eq]; omega
 have e2:na c=true:=by unfold na; simp only [bE,Bool.and_eq_true,decide_eq_true_eq]; omega
 have e3:(decide (((c.chunks.length:Nat):Int)=0) || rowF c.chunks)=true:=by
  rcases h3 with h3 | h3
  ·rw [decide_eq_true (show ((c.chunks.length:Nat):Int)=0 by omega)]; rfl
  ·rw [h3,Bool.or_true]
 unfold cJ; rw [e1,e2,e3]; rfl
theorem wP {c:Command} {v:Int} (h1:¬ ((c.kind<1\/99<c.kind)\/(¬ aQ c.kind=0/\aQ c.kind<=v))) (h2:¬ ((c.client<0\/1048576<c.client)\/(c.seq<0\/1048576<c.seq)\/(c.set<0\/1048576<c.set)\/(c.id<0\/1048576<c.id)\/(c.n<0\/1048576<c.n)))
  (h3:(¬ (0<((c.chunks.length:Nat):Int)))\/rowF c.chunks=true) (h4:v<3):decide (c.text=⟨[]⟩)=cJ c v:=by
 rw [zf h1 h2 h3,xM,decide_eq_false (show ¬ (3:Int)<=v by omega)]; simp
theorem wL {c:Command} {v:Int} (h1:¬ ((c.kind<1\/99<c.kind)\/(¬ aQ c.kind=0/\aQ c.kind<=v))) (h2:¬ ((c.client<0\/1048576<c.client)\/(c.seq<0\/1048576<c.seq)\/(c.set<0\/1048576<c.set)\/(c.id<0\/1048576<c.id)\/(c.n<0\/1048576<c.n)))
  (h3:(¬ (0<((c.chunks.length:Nat):Int)))\/rowF c.chunks=true) (h4:¬ v<3):decide (((c.text.b.length:Nat):Int)<=16)=cJ c v:=by
 rw [zf h1 h2 h3,Bool.eq_iff_iff]; simp only [Bool.or_eq_true,Bool.and_eq_true,decide_eq_true_eq]; omega
end Go.Proofs.YtladifkbefehdaaGreat
namespace Go.Proofs.YtladifkbefehdaaGreat
open Go.RowKit
def cq (k:Int):Bool:=decide (1<=k) && decide (k<=3)
theorem Qe {α:Type} {a b:List α} {k:Nat} {d:α} (h:a.take k=b.take k) (ha:k<a.length) (hb:k<b.length) (e:a.getD k d=b.getD k d):a.take (k+1)=b.take (k+1):=by
 have h1:a[k]? = some (a.getD k d):=by rw [List.getD_eq_getElem?_getD,List.getElem?_eq_getElem ha]; rfl
 have h2:b[k]? = some (b.getD k d):=by rw [List.getD_eq_getElem?_getD,List.getElem?_eq_getElem hb]; rfl
 rw [aB h1,aB h2,h,e]
theorem CP {s:Str} {n:Nat} (h:(s.b.length:Int)<=n):s=⟨s.b.take n⟩:=by
 cases s; rw [List.take_of_length_le (by simpa using h)]
theorem MZ {l:List Int} {k:Nat} {x:Int} (hx:l[k]? = some x):x=bH id 0 (l.take (k+1)):=cg (key:=id) hx
theorem Ej {l:List Int} {k:Nat} {x:Int} (h:aC id 64 0 (l.take k)=true) (hx:l[k]? = some x) (h1:bH id 0 (l.take k)<x) (h2:x<=64):aC id 64 0 (l.take (k+1))=true:=iu (key:=id) h hx (by dsimp only [id]; omega) (by dsimp only [id]; omega)
def PW (l:List Int):List (Nat × LI):=[(5,{ σ:=Nat,F:=fun k=>([(3,one (.int (bH id 0 (l.take k)))),(14,one (.fz .int (l))),(15,one (.int (l).length)),(16,one (.int k))],[]),J:=fun k=>k<=l.length/\aC id 64 0 (l.take k)=true/\1<=l.length/\l.length<=8,μ:=fun k=>(l).length - k })]
def KG (a:List Int) (b:List Int):List (Nat × LI):=[(4,{ σ:=Nat,F:=fun k=>([(0,one (.fz .int (a))),(1,one (.fz .int (b))),(5,one (.int k))],[]),J:=fun k=>k<=a.length/\a.length=b.length/\a.take k=b.take k,μ:=fun k=>a.length - k })]
theorem IN (k:Int) (r0:Bool):cA aF lP [] Tryz.f39 [.c (.int (k))] [] [.c (.bool (.atom (r0)))]=(I64 k->(decide ((1:Int)<=k) && decide (k<=(3:Int)))=r0):=by kernel_rfl
theorem Jx (k:Int):Sat Tryz.prog (ao aF) 39 [.c (.int (k))] [] ⟨[],[.c (.bool (.atom ((cq k))))],none,false⟩:=by
 refine aM dR [] Tryz.func39 (by decide) (by kernel_rfl) ?_
 rw [IN]
 grind [cq]
theorem Pl (l:List Int) (r0:Bool):cA aF lP (PW l) Tryz.f80 [.c (.fz .int (l))] [] [.c (.bool (.atom (r0)))]=((fun (q3:Int)=>(fun (q2:Int)=>(fun (q1:Nat)=>(fun (q0:Prop)=>l.length*(8:Nat)<=(140737488355328:Nat)->(q3<(1:Int)\/(8:Int)<q3->false=r0)/\((1:Int)<=q3/\q3<=(8:Int)->∃ (s0:Nat),(q2=bH id q2 (List.take s0 l)/\l=l/\q3=(↑q1:Int)/\q2=(↑s0:Int))/\(s0<=q1/\aC id (64:Int) q2 (List.take s0 l)=true/\q0)/\∀ (s:Nat),s<=q1/\aC id (64:Int) q2 (List.take s l)=true/\q0->((↑s:Int)<(↑q1:Int)->q2<=(↑s:Int)/\(↑s:Int)<q3/\∀ (x:Int),l[s]? = some x->I64 x->(x<=bH id q2 (List.take s l)\/(64:Int)<x->false=r0)/\(bH id q2 (List.take s l)<x/\x<=(64:Int)->I64 ((↑s:Int)+(1:Int))/\∃ (s':Nat),(x=bH id q2 (List.take s' l)/\l=l/\(↑q1:Int)=(↑q1:Int)/\(↑s:Int)+(1:Int)=(↑s':Int))/\(s' <= q1/\aC id (64:Int) q2 (List.take s' l)=true/\q0)/\q1 - s' < q1 - s))/\((↑q1:Int)<=(↑s:Int)->true=r0))) ((1:Nat)<=q1/\q1<=(8:Nat))) l.length) (0:Int)) (↑l.length:Int)):=by kernel_rfl
theorem Pj (l:List Int):Sat Tryz.prog (ao aF) 80 [.c (.fz .int (l))] [] ⟨[],[.c (.bool (.atom ((rowF l))))],none,false⟩:=by
 refine aM dR (PW l) Tryz.func80 (by decide) (by kernel_rfl) ?_
 rw [Pl]
 (repeat' (first | refine And.intro ?_ ?_ | intro))
 all_goals try (grind [oC,jd,jP,MZ,Ej,aC,bH])
 all_goals (refine ⟨0,?_⟩; (repeat' (first | refine And.intro ?_ ?_ | intro)))
 all_goals try (grind [oC,jd,jP,MZ,Ej,aC,bH])
 all_goals (refine ⟨‹Nat› + 1,?_⟩; (repeat' (first | refine And.intro ?_ ?_ | intro)))
 all_goals grind [oC,jd,jP,MZ,Ej,aC,bH]
theorem OE (a:List Int) (b:List Int) (r0:Bool):cA aF lP (KG a b) Tryz.f31 [.c (.fz .int (a)),.c (.fz .int (b))] [] [.c (.bool (.atom (r0)))]=((fun (q1:Nat)=>(fun (q0:Int)=>a.length*(8:Nat)<=(140737488355328:Nat)->b.length*(8:Nat)<=(140737488355328:Nat)->(¬q0=(↑b.length:Int)->false=r0)/\(q0=(↑b.length:Int)->∃ (s0:Nat),(a=a/\b=b/\(0:Int)=(↑s0:Int))/\(s0<=q1/\q1=b.length/\List.take s0 a=List.take s0 b)/\∀ (s:Nat),(fun (q2:Prop)=>s<=q1/\q1=b.length/\List.take s a=List.take s b->((↑s:Int)<q0->(0:Int)<=(↑s:Int)/\(↑s:Int)<q0/\(0:Int)<=(↑s:Int)/\(↑s:Int)<(↑b.length:Int)/\(I64 (a.getD s (dflt Sh.int))->I64 (b.getD s (dflt Sh.int))->(¬q2->false=r0)/\(q2->I64 ((↑s:Int)+(1:Int))/\∃ (s':Nat),(a=a/\b=b/\(↑s:Int)+(1:Int)=(↑s':Int))/\(s' <= q1/\q1=b.length/\List.take s' a=List.take s' b)/\q1 - s' < q1 - s)))/\(q0<=(↑s:Int)->true=r0)) (a.getD s (dflt Sh.int)=b.getD s (dflt Sh.int)))) (↑a.length:Int)) a.length):=by kernel_rfl
theorem Of (a:List Int) (b:List Int):Sat Tryz.prog (ao aF) 31 [.c (.fz .int (a)),.c (.fz .int (b))] [] ⟨[],[.c (.bool (.atom ((decide (a=b)))))],none,false⟩:=by
 refine aM dR (KG a b) Tryz.func31 (by decide) (by kernel_rfl) ?_
 rw [OE]
 (repeat' (first | refine And.intro ?_ ?_ | intro))
 all_goals try (grind [aB])
 all_goals (refine ⟨0,?_⟩; (repeat' (first | refine And.intro ?_ ?_ | intro)))
 all_goals try (grind [aB])
 all_goals (refine ⟨‹Nat› + 1,?_⟩; (repeat' (first | refine And.intro ?_ ?_ | intro)))
 all_goals first | exact Qe (by grind) (by omega) (by omega) (by with_reducible assumption) | grind
theorem LF (x:Int) (r0:Int):cA aF lP [] Tryz.f29 [.c (.int (x))] [] [.c (.int (r0))]=((fun (q0:Option (den Sh.int))=>I64 x->((fun (j:Int)=>if j=(12:Int) then some (3:Int) else (fun (j:Int)=>if j=(11:Int) then some (3:Int) else (fun (j:Int)=>if j=(10:Int) then some (2:Int) else (fun (j:Int)=>if j=(9:Int) then some (2:Int) else (fun (j:Int)=>if j=(8:Int) then q0 else (fun (j:Int)=>if j=(7:Int) then q0 else (fun (j:Int)=>if j=(6:Int) then q0 else (fun (j:Int)=>if j=(5:Int) then q0 else (fun (j:Int)=>if j=(4:Int) then q0 else (fun (j:Int)=>if j=(3:Int) then q0 else (fun (j:Int)=>if j=(2:Int) then q0 else (fun (j:Int)=>if j=(1:Int) then q0 else (fun (_:Int)=>none) j) j) j) j) j) j) j) j) j) j) j) j) x).getD (dflt Sh.int)=r0) (some (1:Int))):=by kernel_rfl
theorem NJ (x:Int):Sat Tryz.prog (ao aF) 29 [.c (.int (x))] [] ⟨[],[.c (.int ((aQ x)))],none,false⟩:=by
 refine aM dR [] Tryz.func29 (by decide) (by kernel_rfl) ?_
 rw [LF]
 intro _
 simp only [aQ,oz]
 by_cases h:1<=x/\x<=12
 ·have h2:x=1\/x=2\/x=3\/x=4\/x=5\/x=6\/x=7\/x=8\/x=9\/x=10\/x=11\/x=12:=by omega
  rcases h2 with rfl | rfl | rfl | rfl | rfl | rfl | rfl | rfl | rfl | rfl | rfl | rfl <;> rfl
 ·have h1:¬ x=1:=by omega
  have h2:¬ x=2:=by omega
  have h3:¬ x=3:=by omega
  have h4:¬ x=4:=by omega
  have h5:¬ x=5:=by omega
  have h6:¬ x=6:=by omega
  have h7:¬ x=7:=by omega
  have h8:¬ x=8:=by omega
  have h9:¬ x=9:=by omega
  have h10:¬ x=10:=by omega
  have h11:¬ x=11:=by omega
  have h12:¬ x=12:=by omega
  simp [h1,h2,h3,h4,h5,h6,h7,h8,h9,h10,h11,h12,dflt]
theorem Pu (s:Span) (k:Int) (r0:Bool):cA aF lP [] Tryz.f79 [.agg (cellsOf (.nm .span) s),.c (.int (k))] [] [.c (.bool (.atom (r0)))]=(I64 s.lo->I64 s.hi->I64 k->(decide (s.lo<=k) && decide (k<=s.hi))=r0):=by kernel_rfl
theorem Qx (s:Span) (k:Int):Sat Tryz.prog (ao aF) 79 [.agg (cellsOf (.nm .span) s),.c (.int (k))] [] ⟨[],[.c (.bool (.atom ((decide (s.lo<=k) && decide (k<=s.hi)))))],none,false⟩:=by
 refine aM dR [] Tryz.func79 (by decide) (by kernel_rfl) ?_
 rw [Pu]
 grind
theorem D_ (n:Int) (a:Int) (b:Int) (r0:Bool):cA aF lP [] Tryz.f127 [.c (.int (n)),.c (.int (a)),.c (.int (b))] [] [.c (.bool (.atom (r0)))]=(I64 n->I64 a->I64 b->(decide (a<=n) && decide (n<=b))=r0):=by kernel_rfl
theorem DO (n:Int) (a:Int) (b:Int):Sat Tryz.prog (ao aF) 127 [.c (.int (n)),.c (.int (a)),.c (.int (b))] [] ⟨[],[.c (.bool (.atom ((bE n a b))))],none,false⟩:=by
 refine aM dR [] Tryz.func127 (by decide) (by kernel_rfl) ?_
 rw [D_]
 grind [bE]
theorem Qj (n:Int) (a:Int) (b:Int) (r0:Bool):cA aF lP [] Tryz.f30 [.c (.int (n)),.c (.int (a)),.c (.int (b))] [] [.c (.bool (.atom (r0)))]=(I64 n->I64 a->I64 b->(decide (a<=n) && decide (n<=b))=r0):=by kernel_rfl
theorem Py (n:Int) (a:Int) (b:Int):Sat Tryz.prog (ao aF) 30 [.c (.int (n)),.c (.int (a)),.c (.int (b))] [] ⟨[],[.c (.bool (.atom ((bE n a b))))],none,false⟩:=by
 refine aM dR [] Tryz.func30 (by decide) (by kernel_rfl) ?_
 rw [Qj]
 grind [bE]
theorem vW (x:Sess) (r0:Int):cA aF lP [] Tryz.f100 [.agg (cellsOf (.nm .sess) x)] [] [.c (.int (r0))]=(I64 x.client->I64 x.seq->I64 x.last.code->I64 x.last.n->x.client=r0):=by kernel_rfl
theorem wE (x:Sess):Sat Tryz.prog (ao aF) 100 [.agg (cellsOf (.nm .sess) x)] [] ⟨[],[.c (.int ((x.client)))],none,false⟩:=by
 refine aM dR [] Tryz.func100 (by decide) (by kernel_rfl) ?_
 rw [vW]
 grind
theorem Hr (x:Opn) (r0:Int):cA aF lP [] Tryz.f132 [.agg (cellsOf (.nm .opn) x)] [] [.c (.int (r0))]=(I64 x.set->I64 x.client->x.set=r0):=by kernel_rfl
theorem GX (x:Opn):Sat Tryz.prog (ao aF) 132 [.agg (cellsOf (.nm .opn) x)] [] ⟨[],[.c (.int ((x.set)))],none,false⟩:=by
 refine aM dR [] Tryz.func132 (by decide) (by kernel_rfl) ?_
 rw [Hr]
 grind
theorem Mm (x:Snap) (r0:Int):cA aF lP [] Tryz.f170 [.agg (cellsOf (.nm .snap) x)] [] [.c (.int (r0))]=(I64 x.id->I64 x.set->x.chunks.length*(8:Nat)<=(140737488355328:Nat)->x.tag.b.length<=(140737488355328:Nat)->x.id=r0):=by kernel_rfl
theorem LQ (x:Snap):Sat Tryz.prog (ao aF) 170 [.agg (cellsOf (.nm .snap) x)] [] ⟨[],[.c (.int ((x.id)))],none,false⟩:=by
 refine aM dR [] Tryz.func170 (by decide) (by kernel_rfl) ?_
 rw [Mm]
 grind
theorem AP (e:Int) (r0:Reply):cA aF lP [] Tryz.f62 [.c (.int (e))] [] [.agg (cellsOf (.nm .reply) r0)]=(I64 e->e=r0.code/\(0:Int)=r0.n):=by kernel_rfl
theorem Ay (e:Int):Sat Tryz.prog (ao aF) 62 [.c (.int (e))] [] ⟨[],[.agg (cellsOf (.nm .reply) (⟨e,0⟩))],none,false⟩:=by
 refine aM dR [] Tryz.func62 (by decide) (by kernel_rfl) ?_
 rw [AP]
 grind
def Eh:cH:=(bB 62 (bw (ai (kC cI) aH) aJ fun (e,_) (_)=>⟨[],[.agg (cellsOf (.nm .reply) (⟨e,0⟩))],none,false⟩) (bB 170 (bw (ai (kT (.nm .snap)) aH) aJ fun (x,_) (_)=>⟨[],[.c (.int ((x.id)))],none,false⟩) (bB 132 (bw (ai (kT (.nm .opn)) aH) aJ fun (x,_) (_)=>⟨[],[.c (.int ((x.set)))],none,false⟩) (bB 100 (bw (ai (kT (.nm .sess)) aH) aJ fun (x,_) (_)=>⟨[],[.c (.int ((x.client)))],none,false⟩) (bB 30 (bw (ai (kC cI) (ai (kC cI) (ai (kC cI) aH))) aJ fun (n,a,b,_) (_)=>⟨[],[.c (.bool (.atom ((bE n a b))))],none,false⟩) (bB 127 (bw (ai (kC cI) (ai (kC cI) (ai (kC cI) aH))) aJ fun (n,a,b,_) (_)=>⟨[],[.c (.bool (.atom ((bE n a b))))],none,false⟩) (bB 79 (bw (ai (kT (.nm .span)) (ai (kC cI) aH)) aJ fun (s,k,_) (_)=>⟨[],[.c (.bool (.atom ((decide (s.lo<=k) && decide (k<=s.hi)))))],none,false⟩) (bB 29 (bw (ai (kC cI) aH) aJ fun (x,_) (_)=>⟨[],[.c (.int ((aQ x)))],none,false⟩) (bB 31 (bw (ai (kC (cL .int)) (ai (kC (cL .int)) aH)) aJ fun (a,b,_) (_)=>⟨[],[.c (.bool (.atom ((decide (a=b)))))],none,false⟩) (bB 80 (bw (ai (kC (cL .int)) aH) aJ fun (l,_) (_)=>⟨[],[.c (.bool (.atom ((rowF l))))],none,false⟩) (bB 39 (bw (ai (kC cI) aH) aJ fun (k,_) (_)=>⟨[],[.c (.bool (.atom ((cq k))))],none,false⟩) lP)))))))))))
theorem nM:aS Tryz.prog (ao aF) Eh:=(aq (au (ab (al av) aj) ak fun (e,_) (_) _=>Ay e ) (aq (au (ab br aj) ak fun (x,_) (_) _=>LQ x ) (aq (au (ab br aj) ak fun (x,_) (_) _=>GX x ) (aq (au (ab br aj) ak fun (x,_) (_) _=>wE x ) (aq (au (ab (al av) (ab (al av) (ab (al av) aj))) ak fun (n,a,b,_) (_) _=>Py n a b ) (aq (au (ab (al av) (ab (al av) (ab (al av) aj))) ak fun (n,a,b,_) (_) _=>DO n a b ) (aq (au (ab br (ab (al av) aj)) ak fun (s,k,_) (_) _=>Qx s k ) (aq (au (ab (al av) aj) ak fun (x,_) (_) _=>NJ x ) (aq (au (ab (al bp) (ab (al bp) aj)) ak fun (a,b,_) (_) _=>Of a b ) (aq (au (ab (al bp) aj) ak fun (l,_) (_) _=>Pj l ) (aq (au (ab (al av) aj) ak fun (k,_) (_) _=>Jx k ) dR)))))))))))
end Go.Proofs.YtladifkbefehdaaGreat
namespace Go.Proofs.YtladifkbefehdaaGreat
open Go.RowKit
theorem ag {n:Int} (h1:-9223372036854775808<=n) (h2:n<=9223372036854775807):I64 n:=⟨h1,h2⟩
def ax {α:Type} (key:α->Int) (want:Int) (l:List α):Int:=match l.findIdx? (fun x=>decide (key x=want)) with
 | some i=>(i:Int)
 | none=>-1
section
variable {α:Type} {key:α->Int} {want:Int} {l:List α} {k:Nat} {x:α}
theorem ow:ax key want l = -1↔∀ x ∈ l,¬ key x=want:=by
 unfold ax
 cases h:l.findIdx? (fun x=>decide (key x=want)) with
 | none=>simpa using h
 | some i=>
  rw [List.findIdx?_eq_some_iff_getElem] at h
  obtain ⟨h1,h2,_⟩:=h
  simp only [decide_eq_true_eq] at h2
  constructor
  ·intro h; dsimp only at h; omega
  ·intro h; exact absurd h2 (h _ (List.getElem_mem h1))
theorem eV:ax key want (l.take 0) = -1:=rfl
theorem ey (h:ax key want (l.take k) = -1) (hx:l[k]? = some x) (hn:¬ key x=want):ax key want (l.take (k+1)) = -1:=by
 rw [ow] at h ⊢
 rw [aB hx]
 intro y hy
 rcases List.mem_append.1 hy with hy | hy
 ·exact h y hy
 ·rw [List.mem_singleton] at hy; subst hy; exact hn
theorem eh (h:ax key want (l.take k) = -1) (hk:l.length<=k):-1=ax key want l:=by
 rw [List.take_of_length_le hk] at h; exact h.symm
theorem dI (h:ax key want (l.take k) = -1) (hx:l[k]? = some x) (he:key x=want):(k:Int)=ax key want l:=by
 have:l.findIdx? (fun x=>decide (key x=want))=some k:=by
  rw [ow] at h
  obtain ⟨hk,rfl⟩:=List.getElem?_eq_some_iff.1 hx
  rw [List.findIdx?_eq_some_iff_getElem]
  refine ⟨hk,decide_eq_true he,fun j hj=>?_⟩
  have:=h l[j] (by rw [List.mem_take_iff_getElem]; exact ⟨j,by omega,rfl⟩)
  simpa using this
 rw [ax,this]
end
def oS (l:List Sess) (want:Int):List (Nat × LI):=[(2,{ σ:=Nat,F:=fun k=>([(1,one (.int (want))),(2,one (.fn 100 [] [])),(9,one (.fz (.nm .sess) (l))),(10,one (.int (l).length)),(11,one (.int k))],[]),J:=fun k=>k<=l.length/\ax Sess.client want (l.take k) = -1,μ:=fun k=>(l).length - k })]
def oG (l:List Opn) (want:Int):List (Nat × LI):=[(2,{ σ:=Nat,F:=fun k=>([(1,one (.int (want))),(2,one (.fn 132 [] [])),(9,one (.fz (.nm .opn) (l))),(10,one (.int (l).length)),(11,one (.int k))],[]),J:=fun k=>k<=l.length/\ax Opn.set want (l.take k) = -1,μ:=fun k=>(l).length - k })]
def pB (l:List Snap) (want:Int):List (Nat × LI):=[(2,{ σ:=Nat,F:=fun k=>([(1,one (.int (want))),(2,one (.fn 170 [] [])),(9,one (.fz (.nm .snap) (l))),(10,one (.int (l).length)),(11,one (.int k))],[]),J:=fun k=>k<=l.length/\ax Snap.id want (l.take k) = -1,μ:=fun k=>(l).length - k })]
theorem tF (l:List Sess) (want:Int) (r0:Int):cA aF Eh (oS l want) Tryz.f99 [.c (.fz (.nm .sess) (l)),.c (.int (want)),.c (.fn 100 [] [])] [] [.c (.int (r0))]=((fun (q1:Int)=>(fun (q0:Nat)=>l.length*(32:Nat)<=(140737488355328:Nat)->I64 want->∃ (s0:Nat),(want=want/\l=l/\(↑l.length:Int)=(↑q0:Int)/\(0:Int)=(↑s0:Int))/\(s0<=q0/\ax Sess.client want (List.take s0 l) = -q1)/\∀ (s:Nat),s<=q0/\ax Sess.client want (List.take s l) = -q1->((↑s:Int)<(↑q0:Int)->(0:Int)<=(↑s:Int)/\(↑s:Int)<(↑l.length:Int)/\∀ (x:Sess),l[s]? = some x->I64 x.client->I64 x.seq->I64 x.last.code->I64 x.last.n->I64 x.client->(x.client=want->(↑s:Int)=r0)/\(¬x.client=want->I64 ((↑s:Int)+q1)/\∃ (s':Nat),(want=want/\l=l/\(↑q0:Int)=(↑q0:Int)/\(↑s:Int)+q1=(↑s':Int))/\(s' <= q0/\ax Sess.client want (List.take s' l) = -q1)/\q0 - s' < q0 - s))/\((↑q0:Int)<=(↑s:Int) -> -q1=r0)) l.length) (1:Int)):=by kernel_rfl
theorem sV (l:List Sess) (want:Int):Sat Tryz.prog (ao aF) 99 [.c (.fz (.nm .sess) (l)),.c (.int (want)),.c (.fn 100 [] [])] [] ⟨[],[.c (.int ((ax Sess.client want l)))],none,false⟩:=by
 refine aM nM (oS l want) Tryz.func99 (by decide) (by kernel_rfl) ?_
 rw [tF]
 (repeat' (first | with_reducible refine And.intro ?_ ?_ | with_reducible refine and_imp.2 ?_ | intro))
 all_goals try (first | (first | with_reducible rfl | with_reducible assumption | omega | (refine ag ?_ ?_ <;> omega)) | exact (eV (key:=Sess.client)) | exact (dI (key:=Sess.client) (by with_reducible assumption) (by with_reducible assumption) (by with_reducible assumption)) | exact (eh (key:=Sess.client) (by with_reducible assumption) (by omega)) | exact (ey (key:=Sess.client) (by with_reducible assumption) (by with_reducible assumption) (by with_reducible assumption)))
 all_goals try (refine ⟨0,?_⟩; (repeat' (first | with_reducible refine And.intro ?_ ?_ | with_reducible refine and_imp.2 ?_ | intro)))
 all_goals try (first | (first | with_reducible rfl | with_reducible assumption | omega | (refine ag ?_ ?_ <;> omega)) | exact (eV (key:=Sess.client)) | exact (dI (key:=Sess.client) (by with_reducible assumption) (by with_reducible assumption) (by with_reducible assumption)) | exact (eh (key:=Sess.client) (by with_reducible assumption) (by omega)) | exact (ey (key:=Sess.client) (by with_reducible assumption) (by with_reducible assumption) (by with_reducible assumption)))
 all_goals try (refine ⟨‹Nat› + 1,?_⟩; (repeat' (first | with_reducible refine And.intro ?_ ?_ | with_reducible refine and_imp.2 ?_ | intro)))
 all_goals (first | (first | with_reducible rfl | with_reducible assumption | omega | (refine ag ?_ ?_ <;> omega)) | exact (eV (key:=Sess.client)) | exact (dI (key:=Sess.client) (by with_reducible assumption) (by with_reducible assumption) (by with_reducible assumption)) | exact (eh (key:=Sess.client) (by with_reducible assumption) (by omega)) | exact (ey (key:=Sess.client) (by with_reducible assumption) (by with_reducible assumption) (by with_reducible assumption)))
theorem tp (l:List Opn) (want:Int) (r0:Int):cA aF Eh (oG l want) Tryz.f185 [.c (.fz (.nm .opn) (l)),.c (.int (want)),.c (.fn 132 [] [])] [] [.c (.int (r0))]=((fun (q1:Int)=>(fun (q0:Nat)=>l.length*(16:Nat)<=(140737488355328:Nat)->I64 want->∃ (s0:Nat),(want=want/\l=l/\(↑l.length:Int)=(↑q0:Int)/\(0:Int)=(↑s0:Int))/\(s0<=q0/\ax Opn.set want (List.take s0 l) = -q1)/\∀ (s:Nat),s<=q0/\ax Opn.set want (List.take s l) = -q1->((↑s:Int)<(↑q0:Int)->(0:Int)<=(↑s:Int)/\(↑s:Int)<(↑l.length:Int)/\∀ (x:Opn),l[s]? = some x->I64 x.set->I64 x.client->I64 x.set->(x.set=want->(↑s:Int)=r0)/\(¬x.set=want->I64 ((↑s:Int)+q1)/\∃ (s':Nat),(want=want/\l=l/\(↑q0:Int)=(↑q0:Int)/\(↑s:Int)+q1=(↑s':Int))/\(s' <= q0/\ax Opn.set want (List.take s' l) = -q1)/\q0 - s' < q0 - s))/\((↑q0:Int)<=(↑s:Int) -> -q1=r0)) l.length) (1:Int)):=by kernel_rfl
theorem vD (l:List Opn) (want:Int):Sat Tryz.prog (ao aF) 185 [.c (.fz (.nm .opn) (l)),.c (.int (want)),.c (.fn 132 [] [])] [] ⟨[],[.c (.int ((ax Opn.set want l)))],none,false⟩:=by
 refine aM nM (oG l want) Tryz.func185 (by decide) (by kernel_rfl) ?_
 rw [tp]
 (repeat' (first | with_reducible refine And.intro ?_ ?_ | with_reducible refine and_imp.2 ?_ | intro))
 all_goals try (first | (first | with_reducible rfl | with_reducible assumption | omega | (refine ag ?_ ?_ <;> omega)) | exact (eV (key:=Opn.set)) | exact (dI (key:=Opn.set) (by with_reducible assumption) (by with_reducible assumption) (by with_reducible assumption)) | exact (eh (key:=Opn.set) (by with_reducible assumption) (by omega)) | exact (ey (key:=Opn.set) (by with_reducible assumption) (by with_reducible assumption) (by with_reducible assumption)))
 all_goals try (refine ⟨0,?_⟩; (repeat' (first | with_reducible refine And.intro ?_ ?_ | with_reducible refine and_imp.2 ?_ | intro)))
 all_goals try (first | (first | with_reducible rfl | with_reducible assumption | omega | (refine ag ?_ ?_ <;> omega)) | exact (eV (key:=Opn.set)) | exact (dI (key:=Opn.set) (by with_reducible assumption) (by with_reducible assumption) (by with_reducible assumption)) | exact (eh (key:=Opn.set) (by with_reducible assumption) (by omega)) | exact (ey (key:=Opn.set) (by with_reducible assumption) (by with_reducible assumption) (by with_reducible assumption)))
 all_goals try (refine ⟨‹Nat› + 1,?_⟩; (repeat' (first | with_reducible refine And.intro ?_ ?_ | with_reducible refine and_imp.2 ?_ | intro)))
 all_goals (first | (first | with_reducible rfl | with_reducible assumption | omega | (refine ag ?_ ?_ <;> omega)) | exact (eV (key:=Opn.set)) | exact (dI (key:=Opn.set) (by with_reducible assumption) (by with_reducible assumption) (by with_reducible assumption)) | exact (eh (key:=Opn.set) (by with_reducible assumption) (by omega)) | exact (ey (key:=Opn.set) (by with_reducible assumption) (by with_reducible assumption) (by with_reducible assumption)))
theorem uC (l:List Snap) (want:Int) (r0:Int):cA aF Eh (pB l want) Tryz.f174 [.c (.fz (.nm .snap) (l)),.c (.int (want)),.c (.fn 170 [] [])] [] [.c (.int (r0))]=((fun (q1:Int)=>(fun (q0:Nat)=>l.length*(64:Nat)<=(140737488355328:Nat)->I64 want->∃ (s0:Nat),(want=want/\l=l/\(↑l.length:Int)=(↑q0:Int)/\(0:Int)=(↑s0:Int))/\(s0<=q0/\ax Snap.id want (List.take s0 l) = -q1)/\∀ (s:Nat),s<=q0/\ax Snap.id want (List.take s l) = -q1->((↑s:Int)<(↑q0:Int)->(0:Int)<=(↑s:Int)/\(↑s:Int)<(↑l.length:Int)/\∀ (x:Snap),l[s]? = some x->I64 x.id->I64 x.set->x.chunks.length*(8:Nat)<=(140737488355328:Nat)->x.tag.b.length<=(140737488355328:Nat)->I64 x.id->(x.id=want->(↑s:Int)=r0)/\(¬x.id=want->I64 ((↑s:Int)+q1)/\∃ (s':Nat),(want=want/\l=l/\(↑q0:Int)=(↑q0:Int)/\(↑s:Int)+q1=(↑s':Int))/\(s' <= q0/\ax Snap.id want (List.take s' l) = -q1)/\q0 - s' < q0 - s))/\((↑q0:Int)<=(↑s:Int) -> -q1=r0)) l.length) (1:Int)):=by kernel_rfl
theorem tT (l:List Snap) (want:Int):Sat Tryz.prog (ao aF) 174 [.c (.fz (.nm .snap) (l)),.c (.int (want)),.c (.fn 170 [] [])] [] ⟨[],[.c (.int ((ax Snap.id want l)))],none,false⟩:=by
 refine aM nM (pB l want) Tryz.func174 (by decide) (by kernel_rfl) ?_
 rw [uC]
 (repeat' (first | with_reducible refine And.intro ?_ ?_ | with_reducible refine and_imp.2 ?_ | intro))
 all_goals try (first | (first | with_reducible rfl | with_reducible assumption | omega | (refine ag ?_ ?_ <;> omega)) | exact (eV (key:=Snap.id)) | exact (dI (key:=Snap.id) (by with_reducible assumption) (by with_reducible assumption) (by with_reducible assumption)) | exact (eh (key:=Snap.id) (by with_reducible assumption) (by omega)) | exact (ey (key:=Snap.id) (by with_reducible assumption) (by with_reducible assumption) (by with_reducible assumption)))
 all_goals try (refine ⟨0,?_⟩; (repeat' (first | with_reducible refine And.intro ?_ ?_ | with_reducible refine and_imp.2 ?_ | intro)))
 all_goals try (first | (first | with_reducible rfl | with_reducible assumption | omega | (refine ag ?_ ?_ <;> omega)) | exact (eV (key:=Snap.id)) | exact (dI (key:=Snap.id) (by with_reducible assumption) (by with_reducible assumption) (by with_reducible assumption)) | exact (eh (key:=Snap.id) (by with_reducible assumption) (by omega)) | exact (ey (key:=Snap.id) (by with_reducible assumption) (by with_reducible assumption) (by with_reducible assumption)))
 all_goals try (refine ⟨‹Nat› + 1,?_⟩; (repeat' (first | with_reducible refine And.intro ?_ ?_ | with_reducible refine and_imp.2 ?_ | intro)))
 all_goals (first | (first | with_reducible rfl | with_reducible assumption | omega | (refine ag ?_ ?_ <;> omega)) | exact (eV (key:=Snap.id)) | exact (dI (key:=Snap.id) (by with_reducible assumption) (by with_reducible assumption) (by with_reducible assumption)) | exact (eh (key:=Snap.id) (by with_reducible assumption) (by omega)) | exact (ey (key:=Snap.id) (by with_reducible assumption) (by with_reducible assumption) (by with_reducible assumption)))
def vJ:cH:=(bB 174 (bw (ai (kC (cL (.nm .snap))) (ai (kC cI) (ai (kC (pQ 170 [] [])) aH))) aJ fun (l,want,_,_) (_)=>⟨[],[.c (.int ((ax Snap.id want l)))],none,false⟩) (bB 185 (bw (ai (kC (cL (.nm .opn))) (ai (kC cI) (ai (kC (pQ 132 [] [])) aH))) aJ fun (l,want,_,_) (_)=>⟨[],[.c (.int ((ax Opn.set want l)))],none,false⟩) (bB 99 (bw (ai (kC (cL (.nm .sess))) (ai (kC cI) (ai (kC (pQ 100 [] [])) aH))) aJ fun (l,want,_,_) (_)=>⟨[],[.c (.int ((ax Sess.client want l)))],none,false⟩) Eh)))
theorem gP:aS Tryz.prog (ao aF) vJ:=(aq (au (ab (al bp) (ab (al av) (ab (al dh) aj))) ak fun (l,want,_,_) (_) _=>tT l want ) (aq (au (ab (al bp) (ab (al av) (ab (al dh) aj))) ak fun (l,want,_,_) (_) _=>vD l want ) (aq (au (ab (al bp) (ab (al av) (ab (al dh) aj))) ak fun (l,want,_,_) (_) _=>sV l want ) nM)))
end Go.Proofs.YtladifkbefehdaaGreat
namespace Go.Proofs.YtladifkbefehdaaGreat
open Go.RowKit
theorem Io {n r m:Nat} (h:ba n+1=ba r+m) (hr:128<=r):ba n+1=ba (r / 128)+(m+1):=by
 have:=jz (n:=r) (by omega); omega
theorem HL {n r m:Nat} (h:ba n+1=ba r+m) (hn:n<18446744073709551616):m<=10:=by
 have:=od hn; have:=fa r; omega
theorem EO {n r m:Nat} (h:ba n+1=ba r+m) (hr:r<128):m=ba n:=by
 have:=gZ hr; omega
section
variable {α:Type} {key:α->Int} {most:Int} {l:List α} {k:Nat} {x:α}
theorem kX (h:aC key most 0 (l.take k)=true) (hx:l[k]? = some x) (hb:bE (key x) (bH key 0 (l.take k)+1) most=true):aC key most 0 (l.take (k+1))=true:=
 iu h hx (by have:=vS hb; omega) (vS hb).2
theorem lu (hx:l[k]? = some x) (hb:bE (key x) (bH key 0 (l.take k)+1) most=false):false=aC key most 0 l:=
 (mU hx (by have:=SG hb; omega)).symm
theorem lr (h:aC key most 0 (l.take k)=true) (hk:l.length<=k):true=aC key most 0 l:=(iC h hk).symm
theorem ln (hx:l[k]? = some x) (h0:0<=bH key 0 (l.take k)) (hb:bE (key x) (bH key 0 (l.take k)+1) most=true):0<=bH key 0 (l.take (k+1)):=by
 have:=vS hb; rw [<- cg hx]; omega
theorem kM (hx:l[k]? = some x) (hb:bE (key x) (bH key 0 (l.take k)+1) most=true) (hm:most<=1048576):bH key 0 (l.take (k+1))<=1048576:=by
 have:=vS hb; rw [<- cg hx]; omega
variable {p:α->Bool}
theorem lh (hx:l[k]? = some x) (hp:p x=false):false=l.all p:=(BZ hx hp).symm
theorem kJ (h:(l.take k).all p=true) (hk:l.length<=k):true=l.all p:=(Ct h hk).symm
end
def Kg (n:U64):List (Nat × LI):=[(2,{ σ:=Nat × Nat,F:=fun s=>([(0,one (.u64 s.1)),(3,one (.int s.2))],[]),J:=fun s=>s.1<18446744073709551616/\ba n.n+1=ba s.1+s.2,μ:=fun s=>s.1 })]
def mV (l:List Sess) (most:Int):List (Nat × LI):=[(3,{ σ:=Nat,F:=fun k=>([(1,one (.int (most))),(2,one (.fn 100 [] [])),(7,one (.int (bH Sess.client 0 (l.take k)))),(10,one (.fz (.nm .sess) (l))),(11,one (.int (l).length)),(12,one (.int k))],[]),J:=fun k=>k<=l.length/\aC Sess.client most 0 (l.take k)=true/\0<=bH Sess.client 0 (l.take k)/\bH Sess.client 0 (l.take k)<=1048576,μ:=fun k=>(l).length - k })]
def mQ (l:List Opn) (most:Int):List (Nat × LI):=[(3,{ σ:=Nat,F:=fun k=>([(1,one (.int (most))),(2,one (.fn 132 [] [])),(7,one (.int (bH Opn.set 0 (l.take k)))),(10,one (.fz (.nm .opn) (l))),(11,one (.int (l).length)),(12,one (.int k))],[]),J:=fun k=>k<=l.length/\aC Opn.set most 0 (l.take k)=true/\0<=bH Opn.set 0 (l.take k)/\bH Opn.set 0 (l.take k)<=1048576,μ:=fun k=>(l).length - k })]
def mK (l:List Snap) (most:Int):List (Nat × LI):=[(3,{ σ:=Nat,F:=fun k=>([(1,one (.int (most))),(2,one (.fn 170 [] [])),(7,one (.int (bH Snap.id 0 (l.take k)))),(10,one (.fz (.nm .snap) (l))),(11,one (.int (l).length)),(12,one (.int k))],[]),J:=fun k=>k<=l.length/\aC Snap.id most 0 (l.take k)=true/\0<=bH Snap.id 0 (l.take k)/\bH Snap.id 0 (l.take k)<=1048576,μ:=fun k=>(l).length - k })]
theorem Mw (n:U64) (r0:Int):cA aF vJ (Kg n) Tryz.f166 [.c (.u64 (n).n)] [] [.c (.int (r0))]=((fun (q0:Nat)=>n.n<(18446744073709551616:Nat)->∃ (s0:Nat × Nat),(n.n=s0.fst/\(1:Int)=(↑s0.snd:Int))/\(s0.fst<(18446744073709551616:Nat)/\q0=ba s0.fst+s0.snd)/\∀ (s:Nat × Nat),s.fst<(18446744073709551616:Nat)/\q0=ba s.fst+s.snd->((↑(128:Nat):Int)<=(↑s.fst:Int)->(7:Nat)<(64:Nat)/\I64 ((↑s.snd:Int)+(1:Int))/\∃ (s':Nat × Nat),(s.fst / (2:Nat) ^ (7:Nat)=s'.fst/\(↑s.snd:Int)+(1:Int)=(↑s'.snd:Int))/\(s'.fst<(18446744073709551616:Nat)/\q0=ba s'.fst+s'.snd)/\s'.fst<s.fst)/\((↑s.fst:Int)<(↑(128:Nat):Int)->(↑s.snd:Int)=r0)) (ba n.n+(1:Nat))):=by kernel_rfl
theorem OA (n:U64):Sat Tryz.prog (ao aF) 166 [.c (.u64 (n).n)] [] ⟨[],[.c (.int (((ba n.n:Int))))],none,false⟩:=by
 refine aM gP (Kg n) Tryz.func166 (by decide) (by kernel_rfl) ?_
 rw [Mw]
 intro hn
 refine ⟨(n.n,1),⟨rfl,rfl⟩,⟨hn,rfl⟩,fun s hs=>⟨fun h=>?_,fun h=>?_⟩⟩
 ·have h2:=Io hs.2 (by omega)
  have h3:=HL hs.2 hn
  exact ⟨by omega,by constructor <;> omega,(s.1 / 128,s.2+1),⟨rfl,by simp⟩,⟨by show s.1 / 128<_; omega,h2⟩,by show s.1 / 128<s.1; omega⟩
 ·exact congrArg Int.ofNat (EO hs.2 (by omega))
theorem ru (l:List Sess) (most:Int) (r0:Bool):cA aF vJ (mV l most) Tryz.f128 [.c (.fz (.nm .sess) (l)),.c (.int (most)),.c (.fn 100 [] [])] [] [.c (.bool (.atom (r0)))]=((fun (q1:Nat)=>(fun (q0:Int)=>l.length*(32:Nat)<=(140737488355328:Nat)->I64 most->∃ (s0:Nat),(fun (q2:Int)=>(most=most/\q0=q2/\l=l/\(↑l.length:Int)=(↑q1:Int)/\q0=(↑s0:Int))/\(s0<=q1/\aC Sess.client most q0 (List.take s0 l)=true/\q0<=q2/\q2<=(1048576:Int))/\∀ (s:Nat),(fun (q3:Int)=>s<=q1/\aC Sess.client most q0 (List.take s l)=true/\q0<=q3/\q3<=(1048576:Int)->((↑s:Int)<(↑q1:Int)->q0<=(↑s:Int)/\(↑s:Int)<(↑l.length:Int)/\∀ (x:Sess),(fun (q4:Bool)=>l[s]? = some x->I64 x.client->I64 x.seq->I64 x.last.code->I64 x.last.n->I64 x.client->I64 (q3+(1:Int))/\(q4=false->false=r0)/\(q4=true->I64 x.client->I64 ((↑s:Int)+(1:Int))/\∃ (s':Nat),(fun (q5:Int)=>(most=most/\x.client=q5/\l=l/\(↑q1:Int)=(↑q1:Int)/\(↑s:Int)+(1:Int)=(↑s':Int))/\(s' <= q1/\aC Sess.client most q0 (List.take s' l)=true/\q0<=q5/\q5<=(1048576:Int))/\q1 - s' < q1 - s) (bH Sess.client q0 (List.take s' l)))) (bE x.client (q3+(1:Int)) most))/\((↑q1:Int)<=(↑s:Int)->true=r0)) (bH Sess.client q0 (List.take s l))) (bH Sess.client q0 (List.take s0 l))) (0:Int)) l.length):=by kernel_rfl
theorem rU (l:List Sess) (most:Int) (h0:most<=1048576):Sat Tryz.prog (ao aF) 128 [.c (.fz (.nm .sess) (l)),.c (.int (most)),.c (.fn 100 [] [])] [] ⟨[most<=1048576],[.c (.bool (.atom ((aC Sess.client most 0 l))))],none,false⟩:=by
 refine aM gP (mV l most) Tryz.func128 (by decide) (by kernel_rfl) ?_
 rw [ru]
 (repeat' (first | with_reducible refine And.intro ?_ ?_ | with_reducible refine and_imp.2 ?_ | intro))
 all_goals try (first | (first | with_reducible rfl | with_reducible assumption | omega | (refine ag ?_ ?_ <;> omega)) | exact (kX (key:=Sess.client) (by with_reducible assumption) (by with_reducible assumption) (by with_reducible assumption)) | exact (lu (key:=Sess.client) (by with_reducible assumption) (by with_reducible assumption)) | exact (lr (key:=Sess.client) (by with_reducible assumption) (by omega)) | exact (cg (key:=Sess.client) (by with_reducible assumption)) | exact (ln (key:=Sess.client) (by with_reducible assumption) (by with_reducible assumption) (by with_reducible assumption)) | exact (kM (key:=Sess.client) (by with_reducible assumption) (by with_reducible assumption) (by with_reducible assumption)) | exact rfl | exact Int.le_refl _ | exact (show (0:Int)<=1048576 by omega))
 all_goals try (refine ⟨0,?_⟩; (repeat' (first | with_reducible refine And.intro ?_ ?_ | with_reducible refine and_imp.2 ?_ | intro)))
 all_goals try (first | (first | with_reducible rfl | with_reducible assumption | omega | (refine ag ?_ ?_ <;> omega)) | exact (kX (key:=Sess.client) (by with_reducible assumption) (by with_reducible assumption) (by with_reducible assumption)) | exact (lu (key:=Sess.client) (by with_reducible assumption) (by with_reducible assumption)) | exact (lr (key:=Sess.client) (by with_reducible assumption) (by omega)) | exact (cg (key:=Sess.client) (by with_reducible assumption)) | exact (ln (key:=Sess.client) (by with_reducible assumption) (by with_reducible assumption) (by with_reducible assumption)) | exact (kM (key:=Sess.client) (by with_reducible assumption) (by with_reducible assumption) (by with_reducible assumption)) | exact rfl | exact Int.le_refl _ | exact (show (0:Int)<=1048576 by omega))
 all_goals try (refine ⟨‹Nat› + 1,?_⟩; (repeat' (first | with_reducible refine And.intro ?_ ?_ | with_reducible refine and_imp.2 ?_ | intro)))
 all_goals (first | (first | with_reducible rfl | with_reducible assumption | omega | (refine ag ?_ ?_ <;> omega)) | exact (kX (key:=Sess.client) (by with_reducible assumption) (by with_reducible assumption) (by with_reducible assumption)) | exact (lu (key:=Sess.client) (by with_reducible assumption) (by with_reducible assumption)) | exact (lr (key:=Sess.client) (by with_reducible assumption) (by omega)) | exact (cg (key:=Sess.client) (by with_reducible assumption)) | exact (ln (key:=Sess.client) (by with_reducible assumption) (by with_reducible assumption) (by with_reducible assumption)) | exact (kM (key:=Sess.client) (by with_reducible assumption) (by with_reducible assumption) (by with_reducible assumption)) | exact rfl | exact Int.le_refl _ | exact (show (0:Int)<=1048576 by omega))
theorem rK (l:List Opn) (most:Int) (r0:Bool):cA aF vJ (mQ l most) Tryz.f131 [.c (.fz (.nm .opn) (l)),.c (.int (most)),.c (.fn 132 [] [])] [] [.c (.bool (.atom (r0)))]=((fun (q1:Nat)=>(fun (q0:Int)=>l.length*(16:Nat)<=(140737488355328:Nat)->I64 most->∃ (s0:Nat),(fun (q2:Int)=>(most=most/\q0=q2/\l=l/\(↑l.length:Int)=(↑q1:Int)/\q0=(↑s0:Int))/\(s0<=q1/\aC Opn.set most q0 (List.take s0 l)=true/\q0<=q2/\q2<=(1048576:Int))/\∀ (s:Nat),(fun (q3:Int)=>s<=q1/\aC Opn.set most q0 (List.take s l)=true/\q0<=q3/\q3<=(1048576:Int)->((↑s:Int)<(↑q1:Int)->q0<=(↑s:Int)/\(↑s:Int)<(↑l.length:Int)/\∀ (x:Opn),(fun (q4:Bool)=>l[s]? = some x->I64 x.set->I64 x.client->I64 x.set->I64 (q3+(1:Int))/\(q4=false->false=r0)/\(q4=true->I64 x.set->I64 ((↑s:Int)+(1:Int))/\∃ (s':Nat),(fun (q5:Int)=>(most=most/\x.set=q5/\l=l/\(↑q1:Int)=(↑q1:Int)/\(↑s:Int)+(1:Int)=(↑s':Int))/\(s' <= q1/\aC Opn.set most q0 (List.take s' l)=true/\q0<=q5/\q5<=(1048576:Int))/\q1 - s' < q1 - s) (bH Opn.set q0 (List.take s' l)))) (bE x.set (q3+(1:Int)) most))/\((↑q1:Int)<=(↑s:Int)->true=r0)) (bH Opn.set q0 (List.take s l))) (bH Opn.set q0 (List.take s0 l))) (0:Int)) l.length):=by kernel_rfl
theorem sM (l:List Opn) (most:Int) (h0:most<=1048576):Sat Tryz.prog (ao aF) 131 [.c (.fz (.nm .opn) (l)),.c (.int (most)),.c (.fn 132 [] [])] [] ⟨[most<=1048576],[.c (.bool (.atom ((aC Opn.set most 0 l))))],none,false⟩:=by
 refine aM gP (mQ l most) Tryz.func131 (by decide) (by kernel_rfl) ?_
 rw [rK]
 (repeat' (first | with_reducible refine And.intro ?_ ?_ | with_reducible refine and_imp.2 ?_ | intro))
 all_goals try (first | (first | with_reducible rfl | with_reducible assumption | omega | (refine ag ?_ ?_ <;> omega)) | exact (kX (key:=Opn.set) (by with_reducible assumption) (by with_reducible assumption) (by with_reducible assumption)) | exact (lu (key:=Opn.set) (by with_reducible assumption) (by with_reducible assumption)) | exact (lr (key:=Opn.set) (by with_reducible assumption) (by omega)) | exact (cg (key:=Opn.set) (by with_reducible assumption)) | exact (ln (key:=Opn.set) (by with_reducible assumption) (by with_reducible assumption) (by with_reducible assumption)) | exact (kM (key:=Opn.set) (by with_reducible assumption) (by with_reducible assumption) (by with_reducible assumption)) | exact rfl | exact Int.le_refl _ | exact (show (0:Int)<=1048576 by omega))
 all_goals try (refine ⟨0,?_⟩; (repeat' (first | with_reducible refine And.intro ?_ ?_ | with_reducible refine and_imp.2 ?_ | intro)))
 all_goals try (first | (first | with_reducible rfl | with_reducible assumption | omega | (refine ag ?_ ?_ <;> omega)) | exact (kX (key:=Opn.set) (by with_reducible assumption) (by with_reducible assumption) (by with_reducible assumption)) | exact (lu (key:=Opn.set) (by with_reducible assumption) (by with_reducible assumption)) | exact (lr (key:=Opn.set) (by with_reducible assumption) (by omega)) | exact (cg (key:=Opn.set) (by with_reducible assumption)) | exact (ln (key:=Opn.set) (by with_reducible assumption) (by with_reducible assumption) (by with_reducible assumption)) | exact (kM (key:=Opn.set) (by with_reducible assumption) (by with_reducible assumption) (by with_reducible assumption)) | exact rfl | exact Int.le_refl _ | exact (show (0:Int)<=1048576 by omega))
 all_goals try (refine ⟨‹Nat› + 1,?_⟩; (repeat' (first | with_reducible refine And.intro ?_ ?_ | with_reducible refine and_imp.2 ?_ | intro)))
 all_goals (first | (first | with_reducible rfl | with_reducible assumption | omega | (refine ag ?_ ?_ <;> omega)) | exact (kX (key:=Opn.set) (by with_reducible assumption) (by with_reducible assumption) (by with_reducible assumption)) | exact (lu (key:=Opn.set) (by with_reducible assumption) (by with_reducible assumption)) | exact (lr (key:=Opn.set) (by with_reducible assumption) (by omega)) | exact (cg (key:=Opn.set) (by with_reducible assumption)) | exact (ln (key:=Opn.set) (by with_reducible assumption) (by with_reducible assumption) (by with_reducible assumption)) | exact (kM (key:=Opn.set) (by with_reducible assumption) (by with_reducible assumption) (by with_reducible assumption)) | exact rfl | exact Int.le_refl _ | exact (show (0:Int)<=1048576 by omega))
theorem sd (l:List Snap) (most:Int) (r0:Bool):cA aF vJ (mK l most) Tryz.f169 [.c (.fz (.nm .snap) (l)),.c (.int (most)),.c (.fn 170 [] [])] [] [.c (.bool (.atom (r0)))]=((fun (q1:Nat)=>(fun (q0:Int)=>l.length*(64:Nat)<=(140737488355328:Nat)->I64 most->∃ (s0:Nat),(fun (q2:Int)=>(most=most/\q0=q2/\l=l/\(↑l.length:Int)=(↑q1:Int)/\q0=(↑s0:Int))/\(s0<=q1/\aC Snap.id most q0 (List.take s0 l)=true/\q0<=q2/\q2<=(1048576:Int))/\∀ (s:Nat),(fun (q3:Int)=>s<=q1/\aC Snap.id most q0 (List.take s l)=true/\q0<=q3/\q3<=(1048576:Int)->((↑s:Int)<(↑q1:Int)->q0<=(↑s:Int)/\(↑s:Int)<(↑l.length:Int)/\∀ (x:Snap),(fun (q4:Int)=>l[s]? = some x->I64 x.id->I64 x.set->x.chunks.length*(8:Nat)<=(140737488355328:Nat)->x.tag.b.length<=(140737488355328:Nat)->I64 x.id->I64 q4/\(bE x.id q4 most=false->false=r0)/\(bE x.id q4 most=true->I64 x.id->I64 ((↑s:Int)+(1:Int))/\∃ (s':Nat),(fun (q5:Int)=>(most=most/\x.id=q5/\l=l/\(↑q1:Int)=(↑q1:Int)/\(↑s:Int)+(1:Int)=(↑s':Int))/\(s' <= q1/\aC Snap.id most q0 (List.take s' l)=true/\q0<=q5/\q5<=(1048576:Int))/\q1 - s' < q1 - s) (bH Snap.id q0 (List.take s' l)))) (q3+(1:Int)))/\((↑q1:Int)<=(↑s:Int)->true=r0)) (bH Snap.id q0 (List.take s l))) (bH Snap.id q0 (List.take s0 l))) (0:Int)) l.length):=by kernel_rfl
theorem sC (l:List Snap) (most:Int) (h0:most<=1048576):Sat Tryz.prog (ao aF) 169 [.c (.fz (.nm .snap) (l)),.c (.int (most)),.c (.fn 170 [] [])] [] ⟨[most<=1048576],[.c (.bool (.atom ((aC Snap.id most 0 l))))],none,false⟩:=by
 refine aM gP (mK l most) Tryz.func169 (by decide) (by kernel_rfl) ?_
 rw [sd]
 (repeat' (first | with_reducible refine And.intro ?_ ?_ | with_reducible refine and_imp.2 ?_ | intro))
 all_goals try (first | (first | with_reducible rfl | with_reducible assumption | omega | (refine ag ?_ ?_ <;> omega)) | exact (kX (key:=Snap.id) (by with_reducible assumption) (by with_reducible assumption) (by with_reducible assumption)) | exact (lu (key:=Snap.id) (by with_reducible assumption) (by with_reducible assumption)) | exact (lr (key:=Snap.id) (by with_reducible assumption) (by omega)) | exact (cg (key:=Snap.id) (by with_reducible assumption)) | exact (ln (key:=Snap.id) (by with_reducible assumption) (by with_reducible assumption) (by with_reducible assumption)) | exact (kM (key:=Snap.id) (by with_reducible assumption) (by with_reducible assumption) (by with_reducible assumption)) | exact rfl | exact Int.le_refl _ | exact (show (0:Int)<=1048576 by omega))
 all_goals try (refine ⟨0,?_⟩; (repeat' (first | with_reducible refine And.intro ?_ ?_ | with_reducible refine and_imp.2 ?_ | intro)))
 all_goals try (first | (first | with_reducible rfl | with_reducible assumption | omega | (refine ag ?_ ?_ <;> omega)) | exact (kX (key:=Snap.id) (by with_reducible assumption) (by with_reducible assumption) (by with_reducible assumption)) | exact (lu (key:=Snap.id) (by with_reducible assumption) (by with_reducible assumption)) | exact (lr (key:=Snap.id) (by with_reducible assumption) (by omega)) | exact (cg (key:=Snap.id) (by with_reducible assumption)) | exact (ln (key:=Snap.id) (by with_reducible assumption) (by with_reducible assumption) (by with_reducible assumption)) | exact (kM (key:=Snap.id) (by with_reducible assumption) (by with_reducible assumption) (by with_reducible assumption)) | exact rfl | exact Int.le_refl _ | exact (show (0:Int)<=1048576 by omega))
 all_goals try (refine ⟨‹Nat› + 1,?_⟩; (repeat' (first | with_reducible refine And.intro ?_ ?_ | with_reducible refine and_imp.2 ?_ | intro)))
 all_goals (first | (first | with_reducible rfl | with_reducible assumption | omega | (refine ag ?_ ?_ <;> omega)) | exact (kX (key:=Snap.id) (by with_reducible assumption) (by with_reducible assumption) (by with_reducible assumption)) | exact (lu (key:=Snap.id) (by with_reducible assumption) (by with_reducible assumption)) | exact (lr (key:=Snap.id) (by with_reducible assumption) (by omega)) | exact (cg (key:=Snap.id) (by with_reducible assumption)) | exact (ln (key:=Snap.id) (by with_reducible assumption) (by with_reducible assumption) (by with_reducible assumption)) | exact (kM (key:=Snap.id) (by with_reducible assumption) (by with_reducible assumption) (by with_reducible assumption)) | exact rfl | exact Int.le_refl _ | exact (show (0:Int)<=1048576 by omega))
theorem Mp (x:Sess) (r0:Bool):cA aF vJ [] Tryz.f130 [.agg (cellsOf (.nm .sess) x)] [] [.c (.bool (.atom (r0)))]=(I64 x.client->I64 x.seq->I64 x.last.code->I64 x.last.n->(bE x.seq (0:Int) (1048576:Int) && bE x.last.code (0:Int) (99:Int) && bE x.last.n (0:Int) (1048576:Int))=r0):=by kernel_rfl
theorem NU (x:Sess):Sat Tryz.prog (ao aF) 130 [.agg (cellsOf (.nm .sess) x)] [] ⟨[],[.c (.bool (.atom ((cE x))))],none,false⟩:=by
 refine aM gP [] Tryz.func130 (by decide) (by kernel_rfl) ?_
 rw [Mp]
 grind [cE,bE]
theorem Lf (x:Opn) (r0:Bool):cA aF vJ [] Tryz.f134 [.agg (cellsOf (.nm .opn) x)] [] [.c (.bool (.atom (r0)))]=(I64 x.set->I64 x.client->bE x.client (1:Int) (8:Int)=r0):=by kernel_rfl
theorem MG (x:Opn):Sat Tryz.prog (ao aF) 134 [.agg (cellsOf (.nm .opn) x)] [] ⟨[],[.c (.bool (.atom ((cN x))))],none,false⟩:=by
 refine aM gP [] Tryz.func134 (by decide) (by kernel_rfl) ?_
 rw [Lf]
 grind [cN,bE]
def sf:cH:=(bB 134 (bw (ai (kT (.nm .opn)) aH) aJ fun (x,_) (_)=>⟨[],[.c (.bool (.atom ((cN x))))],none,false⟩) (bB 130 (bw (ai (kT (.nm .sess)) aH) aJ fun (x,_) (_)=>⟨[],[.c (.bool (.atom ((cE x))))],none,false⟩) (bB 169 (bw (ai (kC (cL (.nm .snap))) (ai (kC cI) (ai (kC (pQ 170 [] [])) aH))) aJ fun (l,most,_,_) (_)=>⟨[most<=1048576],[.c (.bool (.atom ((aC Snap.id most 0 l))))],none,false⟩) (bB 131 (bw (ai (kC (cL (.nm .opn))) (ai (kC cI) (ai (kC (pQ 132 [] [])) aH))) aJ fun (l,most,_,_) (_)=>⟨[most<=1048576],[.c (.bool (.atom ((aC Opn.set most 0 l))))],none,false⟩) (bB 128 (bw (ai (kC (cL (.nm .sess))) (ai (kC cI) (ai (kC (pQ 100 [] [])) aH))) aJ fun (l,most,_,_) (_)=>⟨[most<=1048576],[.c (.bool (.atom ((aC Sess.client most 0 l))))],none,false⟩) (bB 166 (bw (ai (kC cU) aH) aJ fun (n,_) (_)=>⟨[],[.c (.int (((ba n.n:Int))))],none,false⟩) vJ))))))
theorem fO:aS Tryz.prog (ao aF) sf:=(aq (au (ab br aj) ak fun (x,_) (_) _=>MG x ) (aq (au (ab br aj) ak fun (x,_) (_) _=>NU x ) (aq (au (ab (al bp) (ab (al av) (ab (al dh) aj))) ak fun (l,most,_,_) (_) hp=>sC l most (dx hp)) (aq (au (ab (al bp) (ab (al av) (ab (al dh) aj))) ak fun (l,most,_,_) (_) hp=>sM l most (dx hp)) (aq (au (ab (al bp) (ab (al av) (ab (al dh) aj))) ak fun (l,most,_,_) (_) hp=>rU l most (dx hp)) (aq (au (ab (al CC) aj) ak fun (n,_) (_) _=>OA n ) gP))))))
end Go.Proofs.YtladifkbefehdaaGreat
namespace Go.Proofs.YtladifkbefehdaaGreat
open Go.RowKit
theorem wI {n k:Nat} (h:(k:Int)<ba n):(dY n k).set k (UInt8.ofNat (n / 128 ^ k) ||| UInt8.ofNat 128)=dY n (k+1):=wm (by omega)
theorem sa {n k:Nat} (h1:k<=ba n) (h2:(ba n:Int)<=(k:Int)):(dY n k).set ((ba n:Int) - 1).toNat ((dY n k).getD ((ba n:Int) - 1).toNat (dflt Sh.u8) &&& UInt8.ofNat 127)=bq n:=by
 have e:k=ba n:=by omega
 have e2:((ba n:Int) - 1).toNat=ba n - 1:=by omega
 have hl:=gw (n:=n) (Nat.le_refl _)
 have hp:=fa n
 subst e
 have hlt:ba n - 1<(dY n (ba n)).length:=by omega
 rw [e2,List.getD_eq_getElem?_getD,List.getElem?_eq_getElem hlt,Option.getD_some,wc (List.getElem?_eq_getElem hlt)]
 rfl
def PX (n:U64):List (Nat × LI):=[(4,{ σ:=Nat,F:=fun k=>([(0,one (.u64 (n.n / 128 ^ k))),(3,one (.int (ba n.n))),(4,one (.own 0)),(10,one (.int (ba n.n))),(11,one (.int k))],[.row 5 .u8 ((dY n.n k))]),J:=fun k=>k<=ba n.n,μ:=fun k=>ba n.n - k })]
def sZ (l:List Sess):List (Nat × LI):=[(2,{ σ:=Nat,F:=fun k=>([(1,one (.fn 130 [] [])),(7,one (.fz (.nm .sess) (l))),(8,one (.int (l).length)),(9,one (.int k))],[]),J:=fun k=>k<=l.length/\(l.take k).all (cE)=true,μ:=fun k=>(l).length - k })]
def s_ (l:List Opn):List (Nat × LI):=[(2,{ σ:=Nat,F:=fun k=>([(1,one (.fn 134 [] [])),(7,one (.fz (.nm .opn) (l))),(8,one (.int (l).length)),(9,one (.int k))],[]),J:=fun k=>k<=l.length/\(l.take k).all (cN)=true,μ:=fun k=>(l).length - k })]
theorem PS (n:U64) (r0:List UInt8):ma aF sf (PX n) Tryz.f120 [.c (.u64 (n).n)] [] [.c (.own 0)] [.row 5 .u8 (r0)]=((fun (q2:Nat)=>(fun (q1:Int)=>(fun (q0:Int)=>n.n<(18446744073709551616:Nat)->I64 q0->(0:Int)<=q0/\q0*(↑(1:Nat):Int)<=(140737488355328:Int)/\q0=q0/\∃ (s0:Nat),(fun (q3:Int)=>(n.n=n.n / (128:Nat) ^ s0/\q0=q0/\q0=q0/\(0:Int)=(↑s0:Int)/\List.replicate q2 (dflt Sh.u8)=dY n.n s0)/\s0<=q2/\∀ (s:Nat),(fun (q4:List UInt8)=>s<=q2->((↑s:Int)<q0->(0:Int)<=(↑s:Int)/\(↑s:Int)<(↑q4.length:Int)/\(7:Nat)<(64:Nat)/\I64 ((↑s:Int)+q1)/\∃ (s':Nat),(n.n / (128:Nat) ^ s / (2:Nat) ^ (7:Nat)=n.n / (128:Nat) ^ s' /\ q0=q0/\q0=q0/\(↑s:Int)+q1=(↑s':Int)/\q4.set s (UInt8.ofNat (n.n / (128:Nat) ^ s) ||| UInt8.ofNat (128:Nat))=dY n.n s')/\s' <= q2/\q2 - s' < q2 - s)/\(q0<=(↑s:Int)->I64 q3/\(0:Int)<=q3/\q3<(↑q4.length:Int)/\(0:Int)<=q3/\q3<(↑q4.length:Int)/\q4.set q3.toNat (q4.getD q3.toNat (dflt Sh.u8) &&& UInt8.ofNat (127:Nat))=r0)) (dY n.n s)) (q0 - q1)) (↑q2:Int)) (1:Int)) (ba n.n)):=by kernel_rfl
theorem PI (n:U64):Sat Tryz.prog (ao aF) 120 [.c (.u64 (n).n)] [] ⟨[],[.c (.own 0)],some ([.row 5 .u8 ((bq n.n))]),true⟩:=by
 refine di fO (PX n) Tryz.func120 (by decide) (by kernel_rfl) ?_
 rw [PS]
 intro hn
 have h1:=fa n.n
 have h10:=od hn
 (repeat' (first | with_reducible refine And.intro ?_ ?_ | with_reducible refine and_imp.2 ?_ | intro))
 all_goals try (first | (first | with_reducible rfl | with_reducible assumption | omega | (refine ag ?_ ?_ <;> omega)) | exact (jU n.n) | exact (wI (by omega)) | exact (sa (by omega) (by omega)) | exact div_pow | exact (by rw [Nat.pow_zero,Nat.div_one]) | exact (by rw [gw (by omega)]; omega))
 all_goals try (refine ⟨0,?_⟩; (repeat' (first | with_reducible refine And.intro ?_ ?_ | with_reducible refine and_imp.2 ?_ | intro)))
 all_goals try (first | (first | with_reducible rfl | with_reducible assumption | omega | (refine ag ?_ ?_ <;> omega)) | exact (jU n.n) | exact (wI (by omega)) | exact (sa (by omega) (by omega)) | exact div_pow | exact (by rw [Nat.pow_zero,Nat.div_one]) | exact (by rw [gw (by omega)]; omega))
 all_goals try (refine ⟨‹Nat› + 1,?_⟩; (repeat' (first | with_reducible refine And.intro ?_ ?_ | with_reducible refine and_imp.2 ?_ | intro)))
 all_goals (first | (first | with_reducible rfl | with_reducible assumption | omega | (refine ag ?_ ?_ <;> omega)) | exact (jU n.n) | exact (wI (by omega)) | exact (sa (by omega) (by omega)) | exact div_pow | exact (by rw [Nat.pow_zero,Nat.div_one]) | exact (by rw [gw (by omega)]; omega))
theorem AG (l:List Sess) (r0:Bool):cA aF sf (sZ l) Tryz.f129 [.c (.fz (.nm .sess) (l)),.c (.fn 130 [] [])] [] [.c (.bool (.atom (r0)))]=((fun (q0:Nat)=>l.length*(32:Nat)<=(140737488355328:Nat)->∃ (s0:Nat),(l=l/\(↑l.length:Int)=(↑q0:Int)/\(0:Int)=(↑s0:Int))/\(s0<=q0/\(List.take s0 l).all cE=true)/\∀ (s:Nat),s<=q0/\(List.take s l).all cE=true->((↑s:Int)<(↑q0:Int)->(0:Int)<=(↑s:Int)/\(↑s:Int)<(↑l.length:Int)/\∀ (x:Sess),l[s]? = some x->I64 x.client->I64 x.seq->I64 x.last.code->I64 x.last.n->(cE x=false->false=r0)/\(cE x=true->I64 ((↑s:Int)+(1:Int))/\∃ (s':Nat),(l=l/\(↑q0:Int)=(↑q0:Int)/\(↑s:Int)+(1:Int)=(↑s':Int))/\(s' <= q0/\(List.take s' l).all cE=true)/\q0 - s' < q0 - s))/\((↑q0:Int)<=(↑s:Int)->true=r0)) l.length):=by kernel_rfl
theorem zn (l:List Sess):Sat Tryz.prog (ao aF) 129 [.c (.fz (.nm .sess) (l)),.c (.fn 130 [] [])] [] ⟨[],[.c (.bool (.atom ((l.all (cE)))))],none,false⟩:=by
 refine aM fO (sZ l) Tryz.func129 (by decide) (by kernel_rfl) ?_
 rw [AG]
 (repeat' (first | with_reducible refine And.intro ?_ ?_ | with_reducible refine and_imp.2 ?_ | intro))
 all_goals try (first | (first | with_reducible rfl | with_reducible assumption | omega | (refine ag ?_ ?_ <;> omega)) | exact (ei (p:=cE) (by with_reducible assumption) (by with_reducible assumption) (by with_reducible assumption)) | exact (lh (p:=cE) (by with_reducible assumption) (by with_reducible assumption)) | exact (kJ (p:=cE) (by with_reducible assumption) (by omega)) | exact rfl)
 all_goals try (refine ⟨0,?_⟩; (repeat' (first | with_reducible refine And.intro ?_ ?_ | with_reducible refine and_imp.2 ?_ | intro)))
 all_goals try (first | (first | with_reducible rfl | with_reducible assumption | omega | (refine ag ?_ ?_ <;> omega)) | exact (ei (p:=cE) (by with_reducible assumption) (by with_reducible assumption) (by with_reducible assumption)) | exact (lh (p:=cE) (by with_reducible assumption) (by with_reducible assumption)) | exact (kJ (p:=cE) (by with_reducible assumption) (by omega)) | exact rfl)
 all_goals try (refine ⟨‹Nat› + 1,?_⟩; (repeat' (first | with_reducible refine And.intro ?_ ?_ | with_reducible refine and_imp.2 ?_ | intro)))
 all_goals (first | (first | with_reducible rfl | with_reducible assumption | omega | (refine ag ?_ ?_ <;> omega)) | exact (ei (p:=cE) (by with_reducible assumption) (by with_reducible assumption) (by with_reducible assumption)) | exact (lh (p:=cE) (by with_reducible assumption) (by with_reducible assumption)) | exact (kJ (p:=cE) (by with_reducible assumption) (by omega)) | exact rfl)
theorem AB (l:List Opn) (r0:Bool):cA aF sf (s_ l) Tryz.f133 [.c (.fz (.nm .opn) (l)),.c (.fn 134 [] [])] [] [.c (.bool (.atom (r0)))]=((fun (q0:Nat)=>l.length*(16:Nat)<=(140737488355328:Nat)->∃ (s0:Nat),(l=l/\(↑l.length:Int)=(↑q0:Int)/\(0:Int)=(↑s0:Int))/\(s0<=q0/\(List.take s0 l).all cN=true)/\∀ (s:Nat),s<=q0/\(List.take s l).all cN=true->((↑s:Int)<(↑q0:Int)->(0:Int)<=(↑s:Int)/\(↑s:Int)<(↑l.length:Int)/\∀ (x:Opn),l[s]? = some x->I64 x.set->I64 x.client->(cN x=false->false=r0)/\(cN x=true->I64 ((↑s:Int)+(1:Int))/\∃ (s':Nat),(l=l/\(↑q0:Int)=(↑q0:Int)/\(↑s:Int)+(1:Int)=(↑s':Int))/\(s' <= q0/\(List.take s' l).all cN=true)/\q0 - s' < q0 - s))/\((↑q0:Int)<=(↑s:Int)->true=r0)) l.length):=by kernel_rfl
theorem Ad (l:List Opn):Sat Tryz.prog (ao aF) 133 [.c (.fz (.nm .opn) (l)),.c (.fn 134 [] [])] [] ⟨[],[.c (.bool (.atom ((l.all (cN)))))],none,false⟩:=by
 refine aM fO (s_ l) Tryz.func133 (by decide) (by kernel_rfl) ?_
 rw [AB]
 (repeat' (first | with_reducible refine And.intro ?_ ?_ | with_reducible refine and_imp.2 ?_ | intro))
 all_goals try (first | (first | with_reducible rfl | with_reducible assumption | omega | (refine ag ?_ ?_ <;> omega)) | exact (ei (p:=cN) (by with_reducible assumption) (by with_reducible assumption) (by with_reducible assumption)) | exact (lh (p:=cN) (by with_reducible assumption) (by with_reducible assumption)) | exact (kJ (p:=cN) (by with_reducible assumption) (by omega)) | exact rfl)
 all_goals try (refine ⟨0,?_⟩; (repeat' (first | with_reducible refine And.intro ?_ ?_ | with_reducible refine and_imp.2 ?_ | intro)))
 all_goals try (first | (first | with_reducible rfl | with_reducible assumption | omega | (refine ag ?_ ?_ <;> omega)) | exact (ei (p:=cN) (by with_reducible assumption) (by with_reducible assumption) (by with_reducible assumption)) | exact (lh (p:=cN) (by with_reducible assumption) (by with_reducible assumption)) | exact (kJ (p:=cN) (by with_reducible assumption) (by omega)) | exact rfl)
 all_goals try (refine ⟨‹Nat› + 1,?_⟩; (repeat' (first | with_reducible refine And.intro ?_ ?_ | with_reducible refine and_imp.2 ?_ | intro)))
 all_goals (first | (first | with_reducible rfl | with_reducible assumption | omega | (refine ag ?_ ?_ <;> omega)) | exact (ei (p:=cN) (by with_reducible assumption) (by with_reducible assumption) (by with_reducible assumption)) | exact (lh (p:=cN) (by with_reducible assumption) (by with_reducible assumption)) | exact (kJ (p:=cN) (by with_reducible assumption) (by omega)) | exact rfl)
theorem qU (l:List Sess) (r0:List Sess):ma aF sf [] Tryz.f56 [.c (.fz (.nm .sess) (l))] [] [.c (.own 0)] [.row 82 (.nm .sess) (r0)]=((fun (q0:Prop)=>q0->∀ (b:Bool),(b=true->l=[])->(b=true->r0=[])/\(b=false->q0/\l=r0)) (l.length*(32:Nat)<=(140737488355328:Nat))):=by kernel_rfl
theorem sr (l:List Sess):Sat Tryz.prog (ao aF) 56 [.c (.fz (.nm .sess) (l))] [] ⟨[],[.c (.own 0)],some ([.row 82 (.nm .sess) ((l))]),true⟩:=by
 refine di fO [] Tryz.func56 (by decide) (by kernel_rfl) ?_
 rw [qU]
 exact fun h b hb=>⟨hb,fun _=>⟨h,rfl⟩⟩
theorem vN (l:List Opn) (r0:List Opn):ma aF sf [] Tryz.f57 [.c (.fz (.nm .opn) (l))] [] [.c (.own 0)] [.row 63 (.nm .opn) (r0)]=((fun (q0:Prop)=>q0->∀ (b:Bool),(b=true->l=[])->(b=true->r0=[])/\(b=false->q0/\l=r0)) (l.length*(16:Nat)<=(140737488355328:Nat))):=by kernel_rfl
theorem uu (l:List Opn):Sat Tryz.prog (ao aF) 57 [.c (.fz (.nm .opn) (l))] [] ⟨[],[.c (.own 0)],some ([.row 63 (.nm .opn) ((l))]),true⟩:=by
 refine di fO [] Tryz.func57 (by decide) (by kernel_rfl) ?_
 rw [vN]
 exact fun h b hb=>⟨hb,fun _=>⟨h,rfl⟩⟩
theorem rA (l:List Snap) (r0:List Snap):ma aF sf [] Tryz.f58 [.c (.fz (.nm .snap) (l))] [] [.c (.own 0)] [.row 73 (.nm .snap) (r0)]=((fun (q0:Prop)=>q0->∀ (b:Bool),(b=true->l=[])->(b=true->r0=[])/\(b=false->q0/\l=r0)) (l.length*(64:Nat)<=(140737488355328:Nat))):=by kernel_rfl
theorem rk (l:List Snap):Sat Tryz.prog (ao aF) 58 [.c (.fz (.nm .snap) (l))] [] ⟨[],[.c (.own 0)],some ([.row 73 (.nm .snap) ((l))]),true⟩:=by
 refine di fO [] Tryz.func58 (by decide) (by kernel_rfl) ?_
 rw [rA]
 exact fun h b hb=>⟨hb,fun _=>⟨h,rfl⟩⟩
theorem tC (l:List Int) (r0:List Int):cA aF sf [] Tryz.f59 [.c (.fz .int (l))] [] [.c (.fz .int (r0))]=((fun (q0:Prop)=>q0->∀ (b:Bool),(b=true->l=[])->(b=true->r0=[])/\(b=false->q0/\l=r0)) (l.length*(8:Nat)<=(140737488355328:Nat))):=by kernel_rfl
theorem vL (l:List Int):Sat Tryz.prog (ao aF) 59 [.c (.fz .int (l))] [] ⟨[],[.c (.fz .int ((l)))],none,false⟩:=by
 refine aM fO [] Tryz.func59 (by decide) (by kernel_rfl) ?_
 rw [tC]
 intros; repeat' (first | refine And.intro ?_ ?_ | intro)
 all_goals first | rfl | assumption | simp_all
def uU:cH:=(bB 59 (bw (ai (kC (cL .int)) aH) aJ fun (l,_) (_)=>⟨[],[.c (.fz .int ((l)))],none,false⟩) (bB 58 (bw (ai (kC (cL (.nm .snap))) aH) aJ fun (l,_) (_)=>⟨[],[.c (.own 0)],some ([.row 73 (.nm .snap) ((l))]),true⟩) (bB 57 (bw (ai (kC (cL (.nm .opn))) aH) aJ fun (l,_) (_)=>⟨[],[.c (.own 0)],some ([.row 63 (.nm .opn) ((l))]),true⟩) (bB 56 (bw (ai (kC (cL (.nm .sess))) aH) aJ fun (l,_) (_)=>⟨[],[.c (.own 0)],some ([.row 82 (.nm .sess) ((l))]),true⟩) (bB 133 (bw (ai (kC (cL (.nm .opn))) (ai (kC (pQ 134 [] [])) aH)) aJ fun (l,_,_) (_)=>⟨[],[.c (.bool (.atom ((l.all (cN)))))],none,false⟩) (bB 129 (bw (ai (kC (cL (.nm .sess))) (ai (kC (pQ 130 [] [])) aH)) aJ fun (l,_,_) (_)=>⟨[],[.c (.bool (.atom ((l.all (cE)))))],none,false⟩) (bB 120 (bw (ai (kC cU) aH) aJ fun (n,_) (_)=>⟨[],[.c (.own 0)],some ([.row 5 .u8 ((bq n.n))]),true⟩) sf)))))))
theorem gU:aS Tryz.prog (ao aF) uU:=(aq (au (ab (al bp) aj) ak fun (l,_) (_) _=>vL l ) (aq (au (ab (al bp) aj) ak fun (l,_) (_) _=>rk l ) (aq (au (ab (al bp) aj) ak fun (l,_) (_) _=>uu l ) (aq (au (ab (al bp) aj) ak fun (l,_) (_) _=>sr l ) (aq (au (ab (al bp) (ab (al dh) aj)) ak fun (l,_,_) (_) _=>Ad l ) (aq (au (ab (al bp) (ab (al dh) aj)) ak fun (l,_,_) (_) _=>zn l ) (aq (au (ab (al CC) aj) ak fun (n,_) (_) _=>PI n ) fO)))))))
end Go.Proofs.YtladifkbefehdaaGreat
namespace Go.Proofs.YtladifkbefehdaaGreat
open Go.RowKit
theorem wW {x:Int} {l:List Int} {k:Nat} (h:gl x (l.take k) = -1) (hk:l.length<=k):-1=gl x l:=by rw [List.take_of_length_le hk] at h; exact h.symm
theorem si {x y:Int} {l:List Int} {k:Nat} (h:gl x (l.take k) = -1) (hy:l[k]? = some y) (e:x=y):(k:Int)=gl x l:=by
 refine Fh (fun j z hj hz hc=>?_) hy e
 have hm:z ∈ l.take k:=by
  obtain ⟨h1,h2⟩:=List.getElem?_eq_some_iff.1 hz
  rw [List.mem_take_iff_getElem]; exact ⟨j,by omega,h2⟩
 have:decide (0<=gl x (l.take k))=true:=by rw [yB,List.contains_iff_mem,hc]; exact hm
 rw [decide_eq_true_eq] at this; omega
theorem wO {x y:Int} {l:List Int} {k:Nat} (h:gl x (l.take k) = -1) (hy:l[k]? = some y) (e:¬ x=y):gl x (l.take (k+1)) = -1:=by
 have h0:(l.take k).contains x=false:=by
  have:=yB x (l.take k)
  rw [<- this,h]; decide
 have h1:(l.take (k+1)).contains x=false:=by
  rw [aB hy,<- Bool.not_eq_true,List.contains_iff_mem] at *
  intro hm
  rcases List.mem_append.1 hm with hm | hm
  ·exact h0 hm
  ·exact e (List.mem_singleton.1 hm)
 rw [<- yB,decide_eq_false_iff_not] at h1
 unfold gl at h1 ⊢
 split
 ·rename_i i hi; rw [hi] at h1; dsimp only at h1; omega
 ·rfl
theorem zr {l:List Int} {k:Nat} {x:Int} (hr:rowF l=true) (hx:l[k]? = some x):0<=x:=Int.le_of_lt (jT hr x (List.mem_of_getElem? hx)).1
theorem mC {l:List Int} {k:Nat} {x:Int} (hr:rowF l=true) (hx:l[k]? = some x):((dE (l.take k)).length+(bq x.toNat).length)*1<=140737488355328:=by
 have h1:=Ei (l:=l.take k) (fun x hx=>(jT hr x (List.mem_of_mem_take hx)).2)
 have h2:=yo hr
 have h3:=jT hr x (List.mem_of_getElem? hx)
 have h4:=cT (n:=x.toNat) (by omega)
 rw [List.length_take] at h1; omega
def BT (l:List Int) (x:Int):List (Nat × LI):=[(2,{ σ:=Nat,F:=fun k=>([(0,one (.fz .int (l))),(1,one (.int (x))),(7,one (.int (l).length)),(8,one (.int k))],[]),J:=fun k=>k<=l.length/\gl x (l.take k) = -1,μ:=fun k=>(l).length - k })]
def yn (l:List Int):List (Nat × LI):=[(5,{ σ:=Nat,F:=fun k=>([(4,one (.own 0)),(10,one (.fz .int (l))),(11,one (.int (l).length)),(12,one (.int k))],[.row 5 .u8 ((dE (l.take k)))]),J:=fun k=>k<=l.length/\rowF l=true,μ:=fun k=>(l).length - k })]
theorem JX (l:List Int) (x:Int) (r0:Int):cA aF uU (BT l x) Tryz.f116 [.c (.fz .int (l)),.c (.int (x))] [] [.c (.int (r0))]=((fun (q1:Int)=>(fun (q0:Nat)=>l.length*(8:Nat)<=(140737488355328:Nat)->I64 x->∃ (s0:Nat),(l=l/\x=x/\(↑l.length:Int)=(↑q0:Int)/\(0:Int)=(↑s0:Int))/\(s0<=q0/\gl x (List.take s0 l) = -q1)/\∀ (s:Nat),s<=q0/\gl x (List.take s l) = -q1->((↑s:Int)<(↑q0:Int)->(0:Int)<=(↑s:Int)/\(↑s:Int)<(↑l.length:Int)/\∀ (x_1:Int),l[s]? = some x_1->I64 x_1->(x=x_1->(↑s:Int)=r0)/\(¬x=x_1->I64 ((↑s:Int)+q1)/\∃ (s':Nat),(l=l/\x=x/\(↑q0:Int)=(↑q0:Int)/\(↑s:Int)+q1=(↑s':Int))/\(s' <= q0/\gl x (List.take s' l) = -q1)/\q0 - s' < q0 - s))/\((↑q0:Int)<=(↑s:Int) -> -q1=r0)) l.length) (1:Int)):=by kernel_rfl
theorem JY (l:List Int) (x:Int):Sat Tryz.prog (ao aF) 116 [.c (.fz .int (l)),.c (.int (x))] [] ⟨[],[.c (.int ((gl x l)))],none,false⟩:=by
 refine aM gU (BT l x) Tryz.func116 (by decide) (by kernel_rfl) ?_
 rw [JX]
 (repeat' (first | with_reducible refine And.intro ?_ ?_ | with_reducible refine and_imp.2 ?_ | intro))
 all_goals try (first | (first | with_reducible rfl | with_reducible assumption | omega | (refine ag ?_ ?_ <;> omega)) | exact rfl | exact (wW (by with_reducible assumption) (by omega)) | exact (si (by with_reducible assumption) (by with_reducible assumption) (by with_reducible assumption)) | exact (wO (by with_reducible assumption) (by with_reducible assumption) (by with_reducible assumption)))
 all_goals try (refine ⟨0,?_⟩; (repeat' (first | with_reducible refine And.intro ?_ ?_ | with_reducible refine and_imp.2 ?_ | intro)))
 all_goals try (first | (first | with_reducible rfl | with_reducible assumption | omega | (refine ag ?_ ?_ <;> omega)) | exact rfl | exact (wW (by with_reducible assumption) (by omega)) | exact (si (by with_reducible assumption) (by with_reducible assumption) (by with_reducible assumption)) | exact (wO (by with_reducible assumption) (by with_reducible assumption) (by with_reducible assumption)))
 all_goals try (refine ⟨‹Nat› + 1,?_⟩; (repeat' (first | with_reducible refine And.intro ?_ ?_ | with_reducible refine and_imp.2 ?_ | intro)))
 all_goals (first | (first | with_reducible rfl | with_reducible assumption | omega | (refine ag ?_ ?_ <;> omega)) | exact rfl | exact (wW (by with_reducible assumption) (by omega)) | exact (si (by with_reducible assumption) (by with_reducible assumption) (by with_reducible assumption)) | exact (wO (by with_reducible assumption) (by with_reducible assumption) (by with_reducible assumption)))
theorem Ip (n:Int) (most:Int) (named:Bool) (r0:Bool):cA aF uU [] Tryz.f78 [.c (.int (n)),.c (.int (most)),.c (.bool (.atom (named)))] [] [.c (.bool (.atom (r0)))]=(I64 n->I64 most->(named=true->(decide ((1:Int)<=n) && decide (n<=most))=r0)/\(named=false->decide (n=(0:Int))=r0)):=by kernel_rfl
theorem JE (n:Int) (most:Int) (named:Bool):Sat Tryz.prog (ao aF) 78 [.c (.int (n)),.c (.int (most)),.c (.bool (.atom (named)))] [] ⟨[],[.c (.bool (.atom ((jl n most named))))],none,false⟩:=by
 refine aM gU [] Tryz.func78 (by decide) (by kernel_rfl) ?_
 rw [Ip]
 grind [jl]
theorem Bl (l:List Int) (r0:List UInt8) (r1:Int):cA aF uU (yn l) Tryz.f86 [.c (.fz .int (l))] [] [.c (.fz .u8 (r0)),.c (.int (r1))]=((fun (q1:Prop)=>(fun (q0:Nat)=>l.length*(8:Nat)<=(140737488355328:Nat)->(rowF l=false->r0=[]/\(1:Int)=r1)/\(q1->∃ (s0:Nat),(l=l/\(↑l.length:Int)=(↑q0:Int)/\(0:Int)=(↑s0:Int)/\dE (List.take s0 l)=[])/\(s0<=q0/\q1)/\∀ (s:Nat),s<=q0/\q1->((↑s:Int)<(↑q0:Int)->(0:Int)<=(↑s:Int)/\(↑s:Int)<(↑l.length:Int)/\∀ (x:Int),l[s]? = some x->I64 x->(0:Int)<=x/\((dE (List.take s l)).length+(bq x.toNat).length)*(1:Nat)<=(140737488355328:Nat)/\I64 ((↑s:Int)+(1:Int))/\∃ (s':Nat),(l=l/\(↑q0:Int)=(↑q0:Int)/\(↑s:Int)+(1:Int)=(↑s':Int)/\dE (List.take s l)++bq x.toNat=dE (List.take s' l))/\(s' <= q0/\q1)/\q0 - s' < q0 - s)/\((↑q0:Int)<=(↑s:Int)->dE (List.take s l)=r0/\(0:Int)=r1))) l.length) (rowF l=true)):=by kernel_rfl
theorem CF (l:List Int):Sat Tryz.prog (ao aF) 86 [.c (.fz .int (l))] [] ⟨[],[.c (.fz .u8 ((bu l))),.c (.int ((dm l)))],none,false⟩:=by
 refine aM gU (yn l) Tryz.func86 (by decide) (by kernel_rfl) ?_
 rw [Bl]
 (repeat' (first | with_reducible refine And.intro ?_ ?_ | with_reducible refine and_imp.2 ?_ | intro))
 all_goals try (first | (first | with_reducible rfl | with_reducible assumption | omega | (refine ag ?_ ?_ <;> omega)) | exact rfl | exact (dJ (by with_reducible assumption)).symm | exact (dV (by with_reducible assumption)) | exact (ea (by with_reducible assumption)) | exact (gB (by with_reducible assumption) (by omega)) | exact (fb (by with_reducible assumption)) | exact (zr (by with_reducible assumption) (by with_reducible assumption)) | exact (mC (by with_reducible assumption) (by with_reducible assumption)))
 all_goals try (refine ⟨0,?_⟩; (repeat' (first | with_reducible refine And.intro ?_ ?_ | with_reducible refine and_imp.2 ?_ | intro)))
 all_goals try (first | (first | with_reducible rfl | with_reducible assumption | omega | (refine ag ?_ ?_ <;> omega)) | exact rfl | exact (dJ (by with_reducible assumption)).symm | exact (dV (by with_reducible assumption)) | exact (ea (by with_reducible assumption)) | exact (gB (by with_reducible assumption) (by omega)) | exact (fb (by with_reducible assumption)) | exact (zr (by with_reducible assumption) (by with_reducible assumption)) | exact (mC (by with_reducible assumption) (by with_reducible assumption)))
 all_goals try (refine ⟨‹Nat› + 1,?_⟩; (repeat' (first | with_reducible refine And.intro ?_ ?_ | with_reducible refine and_imp.2 ?_ | intro)))
 all_goals (first | (first | with_reducible rfl | with_reducible assumption | omega | (refine ag ?_ ?_ <;> omega)) | exact rfl | exact (dJ (by with_reducible assumption)).symm | exact (dV (by with_reducible assumption)) | exact (ea (by with_reducible assumption)) | exact (gB (by with_reducible assumption) (by omega)) | exact (fb (by with_reducible assumption)) | exact (zr (by with_reducible assumption) (by with_reducible assumption)) | exact (mC (by with_reducible assumption) (by with_reducible assumption)))
theorem FT (s:State) (x:Int) (r0:Int):cA aF uU [] Tryz.f63 [.agg (cellsOf (.nm .state) s),.c (.int (x))] [] [.c (.int (r0))]=(I64 s.version->I64 s.next->I64 s.keep->I64 s.quota->s.sess.length*(32:Nat)<=(140737488355328:Nat)->s.opens.length*(16:Nat)<=(140737488355328:Nat)->s.snaps.length*(64:Nat)<=(140737488355328:Nat)->I64 x->I64 (ax Sess.client x s.sess)->ax Sess.client x s.sess=r0):=by kernel_rfl
theorem FP (s:State) (x:Int):Sat Tryz.prog (ao aF) 63 [.agg (cellsOf (.nm .state) s),.c (.int (x))] [] ⟨[],[.c (.int ((ax Sess.client x s.sess)))],none,false⟩:=by
 refine aM gU [] Tryz.func63 (by decide) (by kernel_rfl) ?_
 rw [FT]
 grind
theorem DG (s:State) (x:Int) (r0:Int):cA aF uU [] Tryz.f175 [.agg (cellsOf (.nm .state) s),.c (.int (x))] [] [.c (.int (r0))]=(I64 s.version->I64 s.next->I64 s.keep->I64 s.quota->s.sess.length*(32:Nat)<=(140737488355328:Nat)->s.opens.length*(16:Nat)<=(140737488355328:Nat)->s.snaps.length*(64:Nat)<=(140737488355328:Nat)->I64 x->I64 (ax Opn.set x s.opens)->ax Opn.set x s.opens=r0):=by kernel_rfl
theorem DY (s:State) (x:Int):Sat Tryz.prog (ao aF) 175 [.agg (cellsOf (.nm .state) s),.c (.int (x))] [] ⟨[],[.c (.int ((ax Opn.set x s.opens)))],none,false⟩:=by
 refine aM gU [] Tryz.func175 (by decide) (by kernel_rfl) ?_
 rw [DG]
 grind
theorem Fb (s:State) (x:Int) (r0:Int):cA aF uU [] Tryz.f139 [.agg (cellsOf (.nm .state) s),.c (.int (x))] [] [.c (.int (r0))]=(I64 s.version->I64 s.next->I64 s.keep->I64 s.quota->s.sess.length*(32:Nat)<=(140737488355328:Nat)->s.opens.length*(16:Nat)<=(140737488355328:Nat)->s.snaps.length*(64:Nat)<=(140737488355328:Nat)->I64 x->I64 (ax Snap.id x s.snaps)->ax Snap.id x s.snaps=r0):=by kernel_rfl
theorem Ep (s:State) (x:Int):Sat Tryz.prog (ao aF) 139 [.agg (cellsOf (.nm .state) s),.c (.int (x))] [] ⟨[],[.c (.int ((ax Snap.id x s.snaps)))],none,false⟩:=by
 refine aM gU [] Tryz.func139 (by decide) (by kernel_rfl) ?_
 rw [Fb]
 grind
def IM:cH:=(bB 139 (bw (ai (kT (.nm .state)) (ai (kC cI) aH)) aJ fun (s,x,_) (_)=>⟨[],[.c (.int ((ax Snap.id x s.snaps)))],none,false⟩) (bB 175 (bw (ai (kT (.nm .state)) (ai (kC cI) aH)) aJ fun (s,x,_) (_)=>⟨[],[.c (.int ((ax Opn.set x s.opens)))],none,false⟩) (bB 63 (bw (ai (kT (.nm .state)) (ai (kC cI) aH)) aJ fun (s,x,_) (_)=>⟨[],[.c (.int ((ax Sess.client x s.sess)))],none,false⟩) (bB 86 (bw (ai (kC (cL .int)) aH) aJ fun (l,_) (_)=>⟨[],[.c (.fz .u8 ((bu l))),.c (.int ((dm l)))],none,false⟩) (bB 78 (bw (ai (kC cI) (ai (kC cI) (ai (kC cB) aH))) aJ fun (n,most,named,_) (_)=>⟨[],[.c (.bool (.atom ((jl n most named))))],none,false⟩) (bB 116 (bw (ai (kC (cL .int)) (ai (kC cI) aH)) aJ fun (l,x,_) (_)=>⟨[],[.c (.int ((gl x l)))],none,false⟩) uU))))))
theorem rN:aS Tryz.prog (ao aF) IM:=(aq (au (ab br (ab (al av) aj)) ak fun (s,x,_) (_) _=>Ep s x ) (aq (au (ab br (ab (al av) aj)) ak fun (s,x,_) (_) _=>DY s x ) (aq (au (ab br (ab (al av) aj)) ak fun (s,x,_) (_) _=>FP s x ) (aq (au (ab (al bp) aj) ak fun (l,_) (_) _=>CF l ) (aq (au (ab (al av) (ab (al av) (ab (al lz) aj))) ak fun (n,most,named,_) (_) _=>JE n most named ) (aq (au (ab (al bp) (ab (al av) aj)) ak fun (l,x,_) (_) _=>JY l x ) gU))))))
end Go.Proofs.YtladifkbefehdaaGreat
namespace Go.Proofs.YtladifkbefehdaaGreat
open Go.RowKit
theorem wG (l:List Int) (x:Int) (r0:Bool):cA aF IM [] Tryz.f77 [.c (.fz .int (l)),.c (.int (x))] [] [.c (.bool (.atom (r0)))]=(l.length*(8:Nat)<=(140737488355328:Nat)->I64 x->I64 (gl x l)->decide ((0:Int)<=gl x l)=r0):=by kernel_rfl
theorem wN (l:List Int) (x:Int):Sat Tryz.prog (ao aF) 77 [.c (.fz .int (l)),.c (.int (x))] [] ⟨[],[.c (.bool (.atom ((l.contains x))))],none,false⟩:=by
 refine aM rN [] Tryz.func77 (by decide) (by kernel_rfl) ?_
 rw [wG]
 intros; exact yB _ _
theorem CT (x:Snap) (v:Int) (t:Int) (r0:Bool):cA aF IM [] Tryz.f172 [.agg (cellsOf (.nm .snap) x),.c (.ptr 0 0),.c (.ptr 1 0)] [.box 3 ([.int (v)]),.box 3 ([.int (t)])] [.c (.bool (.atom (r0)))]=(I64 x.id->I64 x.set->x.chunks.length*(8:Nat)<=(140737488355328:Nat)->x.tag.b.length<=(140737488355328:Nat)->(bu x.chunks).length*(1:Nat)<=(140737488355328:Nat)->I64 (dm x.chunks)->(decide (dm x.chunks=(0:Int)) && bE x.set (1:Int) (8:Int) && (!x.held || decide ((2:Int)<=v)) && decide ((↑x.tag.b.length:Int)<=t))=r0):=by kernel_rfl
theorem Cv (x:Snap) (v:Int) (t:Int):Sat Tryz.prog (ao aF) 172 [.agg (cellsOf (.nm .snap) x),.c (.ptr 0 0),.c (.ptr 1 0)] [.box 3 ([.int (v)]),.box 3 ([.int (t)])] ⟨[],[.c (.bool (.atom ((ct v t x))))],none,false⟩:=by
 refine aM rN [] Tryz.func172 (by decide) (by kernel_rfl) ?_
 rw [CT]
 intros; rfl
def Hy:cH:=(bB 172 (bw (ai (kT (.nm .snap)) (ai (kC (bX 0 0)) (ai (kC (bX 1 0)) aH))) (ay (bV 3 (aw cI bT)) (ay (bV 3 (aw cI bT)) aJ)) fun (x,_,_,_) ((v,_),(t,_),_)=>⟨[],[.c (.bool (.atom ((ct v t x))))],none,false⟩) (bB 77 (bw (ai (kC (cL .int)) (ai (kC cI) aH)) aJ fun (l,x,_) (_)=>⟨[],[.c (.bool (.atom ((l.contains x))))],none,false⟩) IM))
theorem sq:aS Tryz.prog (ao aF) Hy:=(aq (au (ab br (ab (al aL) (ab (al aL) aj))) (ah (aK (ae av aI)) (ah (aK (ae av aI)) ak)) fun (x,_,_,_) ((v,_),(t,_),_) _=>Cv x v t ) (aq (au (ab (al bp) (ab (al av) aj)) ak fun (l,x,_) (_) _=>wN l x ) rN))
end Go.Proofs.YtladifkbefehdaaGreat
namespace Go.Proofs.YtladifkbefehdaaGreat
open Go.RowKit
def vu (l:List Snap) (v:Int) (t:Int):List (Nat × LI):=[(2,{ σ:=Nat,F:=fun k=>([(1,one (.fn 172 [] [(0,0),(1,0)])),(7,one (.fz (.nm .snap) (l))),(8,one (.int (l).length)),(9,one (.int k))],[.box 3 ([.int ((v))]),.box 3 ([.int ((t))])]),J:=fun k=>k<=l.length/\(l.take k).all ((ct v t))=true,μ:=fun k=>(l).length - k })]
theorem IU (l:List Int) (c:Command) (r0:Bool):cA aF Hy [] Tryz.f76 [.c (.fz .int (l)),.c (.ptr 0 0)] [.box 24 (cellsOf (.nm .command) (c))] [.c (.bool (.atom (r0)))]=(l.length*(8:Nat)<=(140737488355328:Nat)->l.contains c.kind=r0):=by kernel_rfl
theorem Jm (l:List Int) (c:Command):Sat Tryz.prog (ao aF) 76 [.c (.fz .int (l)),.c (.ptr 0 0)] [.box 24 (cellsOf (.nm .command) (c))] ⟨[],[.c (.bool (.atom ((l.contains c.kind))))],none,false⟩:=by
 refine aM sq [] Tryz.func76 (by decide) (by kernel_rfl) ?_
 rw [IU]
 grind
theorem Bf (l:List Snap) (v:Int) (t:Int) (r0:Bool):cA aF Hy (vu l v t) Tryz.f171 [.c (.fz (.nm .snap) (l)),.c (.fn 172 [] [(0,0),(1,0)])] [.box 3 ([.int (v)]),.box 3 ([.int (t)])] [.c (.bool (.atom (r0)))]=((fun (q0:Nat)=>l.length*(64:Nat)<=(140737488355328:Nat)->∃ (s0:Nat),(l=l/\(↑l.length:Int)=(↑q0:Int)/\(0:Int)=(↑s0:Int)/\v=v/\t=t)/\(s0<=q0/\(List.take s0 l).all (ct v t)=true)/\∀ (s:Nat),s<=q0/\(List.take s l).all (ct v t)=true->((↑s:Int)<(↑q0:Int)->(0:Int)<=(↑s:Int)/\(↑s:Int)<(↑l.length:Int)/\∀ (x:Snap),l[s]? = some x->I64 x.id->I64 x.set->x.chunks.length*(8:Nat)<=(140737488355328:Nat)->x.tag.b.length<=(140737488355328:Nat)->(ct v t x=false->false=r0)/\(ct v t x=true->I64 ((↑s:Int)+(1:Int))/\∃ (s':Nat),(l=l/\(↑q0:Int)=(↑q0:Int)/\(↑s:Int)+(1:Int)=(↑s':Int)/\v=v/\t=t)/\(s' <= q0/\(List.take s' l).all (ct v t)=true)/\q0 - s' < q0 - s))/\((↑q0:Int)<=(↑s:Int)->true=r0)) l.length):=by kernel_rfl
theorem Ba (l:List Snap) (v:Int) (t:Int):Sat Tryz.prog (ao aF) 171 [.c (.fz (.nm .snap) (l)),.c (.fn 172 [] [(0,0),(1,0)])] [.box 3 ([.int (v)]),.box 3 ([.int (t)])] ⟨[],[.c (.bool (.atom ((l.all ((ct v t))))))],none,false⟩:=by
 refine aM sq (vu l v t) Tryz.func171 (by decide) (by kernel_rfl) ?_
 rw [Bf]
 (repeat' (first | with_reducible refine And.intro ?_ ?_ | with_reducible refine and_imp.2 ?_ | intro))
 all_goals try (first | (first | with_reducible rfl | with_reducible assumption | omega | (refine ag ?_ ?_ <;> omega)) | exact (ei (p:=(ct v t)) (by with_reducible assumption) (by with_reducible assumption) (by with_reducible assumption)) | exact (lh (p:=(ct v t)) (by with_reducible assumption) (by with_reducible assumption)) | exact (kJ (p:=(ct v t)) (by with_reducible assumption) (by omega)) | exact rfl)
 all_goals try (refine ⟨0,?_⟩; (repeat' (first | with_reducible refine And.intro ?_ ?_ | with_reducible refine and_imp.2 ?_ | intro)))
 all_goals try (first | (first | with_reducible rfl | with_reducible assumption | omega | (refine ag ?_ ?_ <;> omega)) | exact (ei (p:=(ct v t)) (by with_reducible assumption) (by with_reducible assumption) (by with_reducible assumption)) | exact (lh (p:=(ct v t)) (by with_reducible assumption) (by with_reducible assumption)) | exact (kJ (p:=(ct v t)) (by with_reducible assumption) (by omega)) | exact rfl)
 all_goals try (refine ⟨‹Nat› + 1,?_⟩; (repeat' (first | with_reducible refine And.intro ?_ ?_ | with_reducible refine and_imp.2 ?_ | intro)))
 all_goals (first | (first | with_reducible rfl | with_reducible assumption | omega | (refine ag ?_ ?_ <;> omega)) | exact (ei (p:=(ct v t)) (by with_reducible assumption) (by with_reducible assumption) (by with_reducible assumption)) | exact (lh (p:=(ct v t)) (by with_reducible assumption) (by with_reducible assumption)) | exact (kJ (p:=(ct v t)) (by with_reducible assumption) (by omega)) | exact rfl)
def JI:cH:=(bB 171 (bw (ai (kC (cL (.nm .snap))) (ai (kC (pQ 172 [] [(0,0),(1,0)])) aH)) (ay (bV 3 (aw cI bT)) (ay (bV 3 (aw cI bT)) aJ)) fun (l,_,_) ((v,_),(t,_),_)=>⟨[],[.c (.bool (.atom ((l.all ((ct v t))))))],none,false⟩) (bB 76 (bw (ai (kC (cL .int)) (ai (kC (bX 0 0)) aH)) (ay (bV 24 (sR (.nm .command) bT)) aJ) fun (l,_,_) ((c,_),_)=>⟨[],[.c (.bool (.atom ((l.contains c.kind))))],none,false⟩) Hy))
theorem rJ:aS Tryz.prog (ao aF) JI:=(aq (au (ab (al bp) (ab (al dh) aj)) (ah (aK (ae av aI)) (ah (aK (ae av aI)) ak)) fun (l,_,_) ((v,_),(t,_),_) _=>Ba l v t ) (aq (au (ab (al bp) (ab (al aL) aj)) (ah (aK (dL aI)) ak) fun (l,_,_) ((c,_),_) _=>Jm l c ) sq))
end Go.Proofs.YtladifkbefehdaaGreat
namespace Go.Proofs.YtladifkbefehdaaGreat
open Go.RowKit
theorem Pg (k:Int):(if k=12 then some (Span.mk 0 64) else if k=8 then some (Span.mk 2 3) else if k=6 then some (Span.mk 0 8) else none).getD (dflt (.nm .span))=⟨(iN k).1,(iN k).2⟩:=by
 by_cases h1:k=12
 ·subst h1; rfl
 ·by_cases h2:k=8
  ·subst h2; rfl
  ·by_cases h3:k=6
   ·subst h3; rfl
   ·simp [iN,oz,h1,h2,h3,dflt]; rfl
theorem Nl (c:Command) (r0:Bool):cA aF JI [] Tryz.f40 [.agg (cellsOf (.nm .command) c)] [] [.c (.bool (.atom (r0)))]=((fun (q9:Int)=>(fun (q8:Int)=>(fun (q7:Prop)=>(fun (q6:Bool)=>(fun (q5:Bool)=>(fun (q4:Bool)=>(fun (q3:Prop)=>(fun (q2:Prop)=>(fun (q1:Prop)=>(fun (q0:den (Sh.nm NT.span))=>I64 q8->I64 c.client->I64 c.seq->I64 c.set->I64 c.id->I64 c.n->c.chunks.length*(8:Nat)<=(140737488355328:Nat)->c.text.b.length<=(140737488355328:Nat)->(q8=(3:Int)->((decide (q0.lo<=c.n) && decide (c.n<=q0.hi))=true->(rowF c.chunks=true->(q7->q1)/\(¬q7->q2))/\(rowF c.chunks=false->q2))/\((decide (q0.lo<=c.n) && decide (c.n<=q0.hi))=false->q2))/\(¬q8=(3:Int)->(q8=(11:Int)->((decide (q0.lo<=c.n) && decide (c.n<=q0.hi))=true->(q3->((↑c.text.b.length:Int)<=(16:Int)->q1)/\((16:Int)<(↑c.text.b.length:Int)->q2))/\(¬q3->q2))/\((decide (q0.lo<=c.n) && decide (c.n<=q0.hi))=false->q2))/\(¬q8=(11:Int)->((decide (q0.lo<=c.n) && decide (c.n<=q0.hi))=true->(q3->(q7->q1)/\(¬q7->q2))/\(¬q3->q2))/\((decide (q0.lo<=c.n) && decide (c.n<=q0.hi))=false->q2)))) (((fun (j:Int)=>if j=(12:Int) then some (Span.mk (0:Int) (64:Int)) else (fun (j:Int)=>if j=q9 then some (Span.mk (2:Int) (3:Int)) else (fun (j:Int)=>if j=(6:Int) then some (Span.mk (0:Int) q9) else (fun (_:Int)=>none) j) j) j) q8).getD (dflt (Sh.nm NT.span)))) ((q6=true->(q5=true->(q4=true->jl c.id (1048576:Int) ([(5:Int),(7:Int),(9:Int),(10:Int),(11:Int)].contains q8)=r0)/\(q4=false->q2))/\(q5=false->q2))/\(q6=false->q2))) (false=r0)) ((↑c.chunks.length:Int)=(0:Int))) (jl c.set q9 ([(2:Int),(3:Int),(4:Int)].contains q8))) (jl c.seq (1048576:Int) ![(1:Int),q9].contains q8)) (jl c.client q9 ![q9].contains q8)) (c.text=Str.mk [])) c.kind) (8:Int)):=by kernel_rfl
theorem Mb (c:Command):Sat Tryz.prog (ao aF) 40 [.agg (cellsOf (.nm .command) c)] [] ⟨[],[.c (.bool (.atom ((eE c))))],none,false⟩:=by
 refine aM rJ [] Tryz.func40 (by decide) (by kernel_rfl) ?_
 rw [Nl]
 simp only [Pg]
 (repeat' (first | with_reducible refine And.intro ?_ ?_ | with_reducible refine and_imp.2 ?_ | intro))
 all_goals ((unfold eE xc OW; simp_all) <;> (intros; omega))
theorem J_ (s:State) (v:Int) (r0:Bool):cA aF JI [] Tryz.f135 [.agg (cellsOf (.nm .state) s),.c (.int (v))] [] [.c (.bool (.atom (r0)))]=((fun (q1:Nat)=>(fun (q0:Int)=>I64 s.version->I64 s.next->I64 s.keep->I64 s.quota->s.sess.length*(32:Nat)<=(140737488355328:Nat)->s.opens.length*(16:Nat)<=(140737488355328:Nat)->q1*(64:Nat)<=(140737488355328:Nat)->I64 v->((↑q1:Int)<=(16:Int)->I64 q0/\q0<=(1048576:Int))/\((16:Int)<(↑q1:Int)\/aC Snap.id q0 (0:Int) s.snaps=false->false=r0)/\((↑q1:Int)<=(16:Int)/\aC Snap.id q0 (0:Int) s.snaps=true->(v<(3:Int)->s.snaps.all (ct v (0:Int))=r0)/\((3:Int)<=v->s.snaps.all (ct v (16:Int))=r0))) (s.next - (1:Int))) s.snaps.length):=by kernel_rfl
theorem GN (s:State) (v:Int) (h0:1<=s.next/\s.next<=1048576):Sat Tryz.prog (ao aF) 135 [.agg (cellsOf (.nm .state) s),.c (.int (v))] [] ⟨[1<=s.next/\s.next<=1048576],[.c (.bool (.atom ((ft s v))))],none,false⟩:=by
 refine aM rJ [] Tryz.func135 (by decide) (by kernel_rfl) ?_
 rw [J_]
 (repeat' (first | with_reducible refine And.intro ?_ ?_ | with_reducible refine and_imp.2 ?_ | intro))
 all_goals (first | (first | with_reducible rfl | with_reducible assumption | omega | (refine ag ?_ ?_ <;> omega)) | ((simp only [ft,ra]; simp_all) <;> (intros; omega)) | (simp only [ft,ra]; grind))
def Az:cH:=(bB 135 (bw (ai (kT (.nm .state)) (ai (kC cI) aH)) aJ fun (s,v,_) (_)=>⟨[1<=s.next/\s.next<=1048576],[.c (.bool (.atom ((ft s v))))],none,false⟩) (bB 40 (bw (ai (kT (.nm .command)) aH) aJ fun (c,_) (_)=>⟨[],[.c (.bool (.atom ((eE c))))],none,false⟩) JI))
theorem ku:aS Tryz.prog (ao aF) Az:=(aq (au (ab br (ab (al av) aj)) ak fun (s,v,_) (_) hp=>GN s v (dx hp)) (aq (au (ab br aj) ak fun (c,_) (_) _=>Mb c ) rJ))
end Go.Proofs.YtladifkbefehdaaGreat
namespace Go.Proofs.YtladifkbefehdaaGreat
open Go.RowKit
def gf (n:Int) (used:Bool) (lo hi:Int):Bool:=if used then bE n lo hi else decide (n=0)
def dD (s:State) (at_:Nat) (k:Nat):Int:=(((s.snaps.drop (at_+1)).take k).filter fun x=>decide (x.set=(s.snaps.getD at_ (dflt (.nm .snap))).set)).length
def kW (s:State) (at_:Int):Bool:=if at_<0\/(s.snaps.length:Int)<=at_ then false else decide (dD s at_.toNat s.snaps.length<s.keep)
def nch (l:List Snap):Nat:=(l.flatMap Snap.chunks).length
def vZ (c:Int) (l:List Snap):Nat:=(l.flatMap Snap.chunks).count c
def bn (id:Int) (l:List Snap):List Snap:=l.filter fun x=>!decide (x.id=id)
theorem gd {α:Type} {l:List α} {k:Nat} {d:α} (h:(k:Int)<l.length):l[k]? = some (l.getD k d):=by
 have hk:k<l.length:=by omega
 rw [List.getD_eq_getElem?_getD,List.getElem?_eq_getElem hk]; rfl
theorem rV {l:List Int} {k:Nat} (h:aC id 64 0 (l.take k)=true) (hk:(k:Int)<l.length) (hb:bE (l.getD k (dflt .int)) 1 64=true/\((k:Int)<=0\/l.getD ((k:Int) - 1).toNat (dflt .int)<l.getD k (dflt .int))):aC id 64 0 (l.take (k+1))=true:=by
 have h1:=vS hb.1
 refine iu (key:=id) h (gd hk) ?_ h1.2
 by_cases h0:k=0
 ·subst h0; show (0:Int)<l.getD 0 (dflt .int); omega
 ·rw [oR (by omega) (gd (d:=dflt .int) (by omega))]
  have:=hb.2.resolve_left (by omega)
  rwa [show ((k:Int) - 1).toNat=k - 1 by omega] at this
theorem qX {l:List Int} {k:Nat} (hk:(k:Int)<l.length) (hb:bE (l.getD k (dflt .int)) 1 64=false\/0<(k:Int)/\l.getD k (dflt .int)<=l.getD ((k:Int) - 1).toNat (dflt .int)) (h:aC id 64 0 (l.take k)=true):false=rowF l:=by
 refine jd (gd (d:=dflt .int) hk) fun h2=>?_
 rcases hb with hb | ⟨h3,h4⟩
 ·have h5:=SG hb
  have:=zS h
  omega
 ·rw [oR (by omega) (gd (d:=dflt .int) (by omega))] at h2
  rw [show ((k:Int) - 1).toNat=k - 1 by omega] at h4
  have:=h2.1
  dsimp only [id] at this
  omega
theorem wX {s:State} {a:Nat}:0=dD s a 0:=by simp [dD]
theorem IE {s:State} {a k:Nat}:dD s a k<=(k:Int):=by
 have h1:=List.length_filter_le (fun x:Snap=>decide (x.set=(s.snaps.getD a (dflt (.nm .snap))).set)) ((s.snaps.drop (a+1)).take k)
 have h2:((s.snaps.drop (a+1)).take k).length<=k:=by rw [List.length_take]; omega
 unfold dD; omega
theorem Jj {s:State} {a k:Nat}:0<=dD s a k:=by unfold dD; omega
theorem xo {s:State} {a k:Nat} (h:a+1+k<=s.snaps.length) (h2:s.snaps.length*64<=140737488355328):I64 (dD s a k+1):=by
 have h1:=IE (s:=s) (a:=a) (k:=k)
 have h0:=Jj (s:=s) (a:=a) (k:=k)
 constructor <;> omega
theorem wo {s:State} {a k:Nat} {x:Snap} (hx:(s.snaps.drop (a+1))[k]? = some x) (h:x.set=(s.snaps.getD a (dflt (.nm .snap))).set):dD s a k+1=dD s a (k+1):=by
 unfold dD
 rw [aB hx,List.filter_append,List.length_append]
 simp [h]
theorem we {s:State} {a k:Nat} {x:Snap} (hx:(s.snaps.drop (a+1))[k]? = some x) (h:¬ x.set=(s.snaps.getD a (dflt (.nm .snap))).set):dD s a k=dD s a (k+1):=by
 unfold dD
 rw [aB hx,List.filter_append,List.length_append]
 rw [show List.filter (fun x:Snap=>decide (x.set=(s.snaps.getD a (dflt (.nm .snap))).set)) [x]=[] by simp only [List.filter_cons,h,decide_false,List.filter_nil]; rfl]
 simp
theorem nU {s:State} {a:Int} {k:Nat} (h0:0<=a) (ha:a<s.snaps.length) (h:(s.snaps.length:Int)<=a+1+k):decide (dD s a.toNat k<s.keep)=kW s a:=by
 unfold kW
 rw [if_neg (by omega)]
 have e:∀ m:Nat,(s.snaps.length:Int)<=a+1+m->dD s a.toNat m=dD s a.toNat s.snaps.length:=fun m hm=>by
  unfold dD
  rw [List.take_of_length_le (by rw [List.length_drop]; omega),List.take_of_length_le (by rw [List.length_drop]; omega)]
 rw [e k h]
theorem pc {s:State} {a:Int} (h:a<0\/(s.snaps.length:Int)<=a):false=kW s a:=by unfold kW; rw [if_pos h]
theorem Fz {id:Int} {l:List Snap} {k:Nat} {x y:Snap} (h:¬ x.id=id) (hx:l[k]? = some x) (hy:l[k]? = some y):bn id (l.take k)++[y]=bn id (l.take (k+1)):=by
 rw [hx] at hy; cases hy
 unfold bn; rw [aB hx,List.filter_append]; simp [h]
theorem Dn {id:Int} {l:List Snap} {k:Nat} {x:Snap} (hx:l[k]? = some x) (h:x.id=id):bn id (l.take k)=bn id (l.take (k+1)):=by
 unfold bn; rw [aB hx,List.filter_append]; simp [h]
theorem wT {id:Int} {l:List Snap} {k:Nat} (h:(l.length:Int)<=k):bn id (l.take k)=bn id l:=by rw [List.take_of_length_le (by omega)]
theorem xw {id:Int} {l:List Snap} {k:Nat} {x:Snap} (h:(k:Int)<l.length) (hl:l.length*64<=140737488355328):((bn id (l.take k)).length+[x].length)*64<=140737488355328:=by
 have h1:=List.length_filter_le (fun x:Snap=>!decide (x.id=id)) (l.take k)
 rw [List.length_take] at h1
 unfold bn
 simp only [List.length_cons,List.length_nil]
 omega
def Kl (l:List Int):List (Nat × LI):=[(2,{ σ:=Nat,F:=fun k=>([(0,one (.fz .int (l))),(3,one (.int k))],[]),J:=fun k=>k<=l.length/\aC id 64 0 (l.take k)=true,μ:=fun k=>l.length - k })]
def KM (st:State) (at_:Int):List (Nat × LI):=[(5,{ σ:=Nat,F:=fun k=>([(1,one (.int (at_))),(2,one (.ptr 0 0)),(5,one (.int (dD st at_.toNat k))),(21,one (.fz (.nm .snap) (st.snaps.drop (at_+1).toNat))),(22,one (.int (st.snaps.drop (at_+1).toNat).length)),(23,one (.int k))],[.box 43 (cellsOf (.nm .state) ((st)))]),J:=fun k=>at_.toNat+1+k<=st.snaps.length/\0<=at_,μ:=fun k=>st.snaps.length - k })]
theorem Mn (l:List Int) (r0:Bool):cA aF Az (Kl l) Tryz.f46 [.c (.fz .int (l))] [] [.c (.bool (.atom (r0)))]=((fun (q4:Int)=>(fun (q3:Int)=>(fun (q2:den Sh.int)=>(fun (q1:Int)=>(fun (q0:Int)=>l.length*(8:Nat)<=(140737488355328:Nat)->∃ (s0:Nat),(l=l/\q1=(↑s0:Int))/\(s0<=l.length/\aC id q4 q1 (List.take s0 l)=true)/\∀ (s:Nat),(fun (q7:den Sh.int)=>(fun (q6:Int)=>(fun (q5:Prop)=>s<=l.length/\aC id q4 q1 (List.take s l)=true->(q6<q3->q1<=q6/\q6<q3/\(q5->q1<=q6/\q6<q3)/\(q5->I64 (q6 - q0))/\(q5->q1<=q6 - q0/\q6 - q0<q3)/\(I64 q7->(q5->I64 q7)->(q5->I64 (l.getD (q6 - q0).toNat q2))->(bE q7 q0 q4=false\/q1<q6/\q7<=l.getD (q6 - q0).toNat q2->false=r0)/\(bE q7 q0 q4=true/\(q6<=q1\/l.getD (q6 - q0).toNat q2<q7)->I64 (q6+q0)/\∃ (s':Nat),(l=l/\q6+q0=(↑s':Int))/\(s' <= l.length/\aC id q4 q1 (List.take s' l)=true)/\l.length - s' < l.length - s)))/\(q3<=q6->(decide (q0<=q3) && decide (q3<=(8:Int)))=r0)) (bE q7 q0 q4=true/\q1<q6)) (↑s:Int)) (l.getD s q2)) (1:Int)) (0:Int)) (dflt Sh.int)) (↑l.length:Int)) (64:Int)):=by kernel_rfl
theorem Nj (l:List Int):Sat Tryz.prog (ao aF) 46 [.c (.fz .int (l))] [] ⟨[],[.c (.bool (.atom ((rowF l))))],none,false⟩:=by
 refine aM ku (Kl l) Tryz.func46 (by decide) (by kernel_rfl) ?_
 rw [Mn]
 (repeat' (first | with_reducible refine And.intro ?_ ?_ | with_reducible refine and_imp.2 ?_ | intro))
 all_goals try (first | (first | with_reducible rfl | with_reducible assumption | omega | (refine ag ?_ ?_ <;> omega)) | exact rfl | exact (rV (by with_reducible assumption) (by omega) (And.intro (by with_reducible assumption) (by assumption))) | exact (qX (by omega) (by assumption) (by with_reducible assumption)) | exact (mu (by with_reducible assumption) (by omega)))
 all_goals try (refine ⟨0,?_⟩; (repeat' (first | with_reducible refine And.intro ?_ ?_ | with_reducible refine and_imp.2 ?_ | intro)))
 all_goals try (first | (first | with_reducible rfl | with_reducible assumption | omega | (refine ag ?_ ?_ <;> omega)) | exact rfl | exact (rV (by with_reducible assumption) (by omega) (And.intro (by with_reducible assumption) (by assumption))) | exact (qX (by omega) (by assumption) (by with_reducible assumption)) | exact (mu (by with_reducible assumption) (by omega)))
 all_goals try (refine ⟨‹Nat› + 1,?_⟩; (repeat' (first | with_reducible refine And.intro ?_ ?_ | with_reducible refine and_imp.2 ?_ | intro)))
 all_goals (first | (first | with_reducible rfl | with_reducible assumption | omega | (refine ag ?_ ?_ <;> omega)) | exact rfl | exact (rV (by with_reducible assumption) (by omega) (And.intro (by with_reducible assumption) (by assumption))) | exact (qX (by omega) (by assumption) (by with_reducible assumption)) | exact (mu (by with_reducible assumption) (by omega)))
theorem Hl (x:Int) (r0:Int):cA aF Az [] Tryz.f12 [.c (.int (x))] [] [.c (.int (r0))]=(I64 x->(bE x (1:Int) (8:Int)=true->(1:Int)=r0)/\(bE x (1:Int) (8:Int)=false->(bE x (9:Int) (10:Int)=true->(2:Int)=r0)/\(bE x (9:Int) (10:Int)=false->(bE x (11:Int) (12:Int)=true->(3:Int)=r0)/\(bE x (11:Int) (12:Int)=false->(0:Int)=r0)))):=by kernel_rfl
theorem Hn (x:Int):Sat Tryz.prog (ao aF) 12 [.c (.int (x))] [] ⟨[],[.c (.int ((aQ x)))],none,false⟩:=by
 refine aM ku [] Tryz.func12 (by decide) (by kernel_rfl) ?_
 rw [Hl]
 intro _
 by_cases h:1<=x/\x<=12
 ·rw [HA h]; simp only [bE,Bool.and_eq_true,Bool.and_eq_false_iff,decide_eq_true_eq,decide_eq_false_iff_not]; (repeat' (first | with_reducible refine And.intro ?_ ?_ | with_reducible refine and_imp.2 ?_ | intro)) <;> (repeat split) <;> omega
 ·rw [yM h]; exact ⟨fun h1=>absurd (vS h1) (by omega),fun _=>⟨fun h1=>absurd (vS h1) (by omega),fun _=>⟨fun h1=>absurd (vS h1) (by omega),fun _=>rfl⟩⟩⟩
theorem Cp (n:Int) (used:Bool) (lo:Int) (hi:Int) (r0:Bool):cA aF Az [] Tryz.f45 [.c (.int (n)),.c (.bool (.atom (used))),.c (.int (lo)),.c (.int (hi))] [] [.c (.bool (.atom (r0)))]=(I64 n->I64 lo->I64 hi->(used=false->decide (n=(0:Int))=r0)/\(used=true->bE n lo hi=r0)):=by kernel_rfl
theorem Fj (n:Int) (used:Bool) (lo:Int) (hi:Int):Sat Tryz.prog (ao aF) 45 [.c (.int (n)),.c (.bool (.atom (used))),.c (.int (lo)),.c (.int (hi))] [] ⟨[],[.c (.bool (.atom ((gf n used lo hi))))],none,false⟩:=by
 refine aM ku [] Tryz.func45 (by decide) (by kernel_rfl) ?_
 rw [Cp]
 grind [gf]
theorem MU (st:State) (at_:Int) (r0:Bool):cA aF Az (KM st at_) Tryz.f182 [.agg (cellsOf (.nm .state) st),.c (.int (at_))] [] [.c (.bool (.atom (r0)))]=((fun (q8:Int)=>(fun (q7:Nat)=>(fun (q6:den (Sh.nm NT.snap))=>(fun (q5:Int)=>(fun (q4:Prop)=>(fun (q3:Nat)=>(fun (q2:List Snap)=>(fun (q1:Nat)=>(fun (q0:Prop)=>I64 st.version->I64 st.next->I64 st.keep->I64 st.quota->st.sess.length*(32:Nat)<=q7->st.opens.length*(16:Nat)<=q7->q2.length*(64:Nat)<=q7->I64 at_->(at_<q8\/(↑q2.length:Int)<=at_->false=r0)/\(q4/\at_<(↑q2.length:Int)->I64 (at_+q5)/\q8<=at_+q5/\at_+q5<=(↑q2.length:Int)/\∃ (s0:Nat),(fun (q13:Nat)=>(fun (q12:Nat)=>(fun (q11:den (Sh.nm NT.snap))=>(fun (q10:List (den (Sh.nm NT.snap)))=>(fun (q9:Int)=>(at_=at_/\q8=dD st q3 s0/\q10=q10/\(↑q10.length:Int)=q9/\q8=(↑s0:Int)/\q0)/\(q13+s0<=q12/\q4)/\∀ (s:Nat),(fun (q15:Int)=>(fun (q14:Int)=>q13+s<=q12/\q4->((↑s:Int)<q9->q8<=(↑s:Int)/\(↑s:Int)<(↑q10.length:Int)/\∀ (x:Snap),q10[s]? = some x->I64 x.id->I64 x.set->x.chunks.length*(8:Nat)<=q7->x.tag.b.length<=q7->q4/\at_<(↑q2.length:Int)/\(I64 q11.id->I64 q11.set->q11.chunks.length*(8:Nat)<=q7->q11.tag.b.length<=q7->(x.set=q11.set->I64 (q15+q5)/\I64 q14/\∃ (s':Nat),(at_=at_/\q15+q5=dD st q3 s' /\ q10=q10/\q9=q9/\q14=(↑s':Int)/\q0)/\(q13+s' <= q12/\q4)/\q12 - s' < q12 - s)/\(¬x.set=q11.set->I64 q14/\∃ (s':Nat),(at_=at_/\q15=dD st q3 s' /\ q10=q10/\q9=q9/\q14=(↑s':Int)/\q0)/\(q13+s' <= q12/\q4)/\q12 - s' < q12 - s)))/\(q9<=(↑s:Int)->decide (q15<st.keep)=r0)) ((↑s:Int)+q5)) (dD st q3 s)) (↑(List.drop q1 q2).length:Int)) (List.drop q1 q2)) (q2.getD q3 q6)) q2.length) (q3+(1:Nat)))) (st.version=st.version/\st.next=st.next/\st.keep=st.keep/\st.quota=st.quota/\st.sess=st.sess/\st.opens=st.opens/\q2=q2)) (at_+q5).toNat) st.snaps) at_.toNat) (q8<=at_)) (1:Int)) (dflt (Sh.nm NT.snap))) (140737488355328:Nat)) (0:Int)):=by kernel_rfl
theorem Lr (st:State) (at_:Int):Sat Tryz.prog (ao aF) 182 [.agg (cellsOf (.nm .state) st),.c (.int (at_))] [] ⟨[],[.c (.bool (.atom ((kW st at_))))],none,false⟩:=by
 refine aM ku (KM st at_) Tryz.func182 (by decide) (by kernel_rfl) ?_
 rw [MU]
 (repeat' (first | with_reducible refine And.intro ?_ ?_ | with_reducible refine and_imp.2 ?_ | intro))
 all_goals try (first | (first | with_reducible rfl | with_reducible assumption | omega | (refine ag ?_ ?_ <;> omega)) | exact wX | exact (pc (by assumption)) | exact (xo (by omega) (by omega)) | exact (nU (by omega) (by omega) (by rw [List.length_drop] at *; omega)) | exact (wo (by rw [show (at_+1).toNat=at_.toNat+1 by omega] at *; assumption) (by with_reducible assumption)) | exact (by have:=‹_<((List.length (List.drop _ _):Nat):Int)›; rw [List.length_drop] at this; omega) | exact (we (by rw [show (at_+1).toNat=at_.toNat+1 by omega] at *; assumption) (by with_reducible assumption)))
 all_goals try (refine ⟨0,?_⟩; (repeat' (first | with_reducible refine And.intro ?_ ?_ | with_reducible refine and_imp.2 ?_ | intro)))
 all_goals try (first | (first | with_reducible rfl | with_reducible assumption | omega | (refine ag ?_ ?_ <;> omega)) | exact wX | exact (pc (by assumption)) | exact (xo (by omega) (by omega)) | exact (nU (by omega) (by omega) (by rw [List.length_drop] at *; omega)) | exact (wo (by rw [show (at_+1).toNat=at_.toNat+1 by omega] at *; assumption) (by with_reducible assumption)) | exact (by have:=‹_<((List.length (List.drop _ _):Nat):Int)›; rw [List.length_drop] at this; omega) | exact (we (by rw [show (at_+1).toNat=at_.toNat+1 by omega] at *; assumption) (by with_reducible assumption)))
 all_goals try (refine ⟨‹Nat› + 1,?_⟩; (repeat' (first | with_reducible refine And.intro ?_ ?_ | with_reducible refine and_imp.2 ?_ | intro)))
 all_goals (first | (first | with_reducible rfl | with_reducible assumption | omega | (refine ag ?_ ?_ <;> omega)) | exact wX | exact (pc (by assumption)) | exact (xo (by omega) (by omega)) | exact (nU (by omega) (by omega) (by rw [List.length_drop] at *; omega)) | exact (wo (by rw [show (at_+1).toNat=at_.toNat+1 by omega] at *; assumption) (by with_reducible assumption)) | exact (by have:=‹_<((List.length (List.drop _ _):Nat):Int)›; rw [List.length_drop] at this; omega) | exact (we (by rw [show (at_+1).toNat=at_.toNat+1 by omega] at *; assumption) (by with_reducible assumption)))
def Cf:cH:=(bB 182 (bw (ai (kT (.nm .state)) (ai (kC cI) aH)) aJ fun (st,at_,_) (_)=>⟨[],[.c (.bool (.atom ((kW st at_))))],none,false⟩) (bB 45 (bw (ai (kC cI) (ai (kC cB) (ai (kC cI) (ai (kC cI) aH)))) aJ fun (n,used,lo,hi,_) (_)=>⟨[],[.c (.bool (.atom ((gf n used lo hi))))],none,false⟩) (bB 12 (bw (ai (kC cI) aH) aJ fun (x,_) (_)=>⟨[],[.c (.int ((aQ x)))],none,false⟩) (bB 46 (bw (ai (kC (cL .int)) aH) aJ fun (l,_) (_)=>⟨[],[.c (.bool (.atom ((rowF l))))],none,false⟩) Az))))
theorem nL:aS Tryz.prog (ao aF) Cf:=(aq (au (ab br (ab (al av) aj)) ak fun (st,at_,_) (_) _=>Lr st at_ ) (aq (au (ab (al av) (ab (al lz) (ab (al av) (ab (al av) aj)))) ak fun (n,used,lo,hi,_) (_) _=>Fj n used lo hi ) (aq (au (ab (al av) aj) ak fun (x,_) (_) _=>Hn x ) (aq (au (ab (al bp) aj) ak fun (l,_) (_) _=>Nj l ) ku))))
end Go.Proofs.YtladifkbefehdaaGreat
namespace Go.Proofs.YtladifkbefehdaaGreat
open Go.RowKit
theorem v_ {α:Type} {l:List α} {k:Nat} {d:α} (h:(k:Int)<l.length):l.set k (l.getD k d)=l:=by
 have hk:k<l.length:=by omega
 rw [List.getD_eq_getElem?_getD,List.getElem?_eq_getElem hk]; exact List.set_getElem_self hk
def Fc (l:List Snap) (k:Nat):Nat:=((List.range k).filter fun (i:Nat)=>decide (0<vZ ((i:Int)+1) l)).length
def distF (l:List Snap):Nat:=Fc l 64
def BK (st:State):List (Nat × LI):=[(5,{ σ:=Nat,F:=fun k=>([(1,one (.ptr 0 0)),(2,one (.ptr 1 0)),(18,one (.int st.snaps.length)),(19,one (.int k))],[.box 43 ([.int ((st.version)),.int ((st.next)),.int ((st.keep)),.int ((st.quota)),.own 2,.own 3,.own 4]),.box 43 ([.int ((0)),.int ((0)),.int ((0)),.int ((0)),.em true,.em true,.em true]),.row 82 (.nm .sess) ((st.sess)),.row 63 (.nm .opn) ((st.opens)),.row 73 (.nm .snap) ((st.snaps))]),J:=fun k=>k<=st.snaps.length,μ:=fun k=>st.snaps.length - k })]
theorem LP (st:State) (v:Int) (r0:Int):cA aF Cf [] Tryz.f98 [.agg (cellsOf (.nm .state) st),.c (.int (v))] [] [.c (.int (r0))]=((fun (q12:Int)=>(fun (q11:Bool)=>(fun (q10:Bool)=>(fun (q9:Int)=>(fun (q8:Int)=>(fun (q7:Int)=>(fun (q6:Int)=>(fun (q5:Int)=>(fun (q4:Int)=>(fun (q3:Prop)=>(fun (q2:Prop)=>(fun (q1:Prop)=>(fun (q0:Prop)=>I64 st.version->I64 q12->I64 st.keep->I64 q8->st.sess.length*(32:Nat)<=(140737488355328:Nat)->st.opens.length*(16:Nat)<=(140737488355328:Nat)->st.snaps.length*(64:Nat)<=(140737488355328:Nat)->I64 v->(bE v q6 q9=false->q6=r0)/\(bE v q6 q9=true->(v<q9->q5<=q7/\q5<=q7/\(((q0/\bE q8 q4 q4=true)/\q1)/\q2->q6<=q12/\q12<=q7)/\((((q3\/bE q8 q4 q4=false)\/aC Sess.client q5 q4 st.sess=false\/q11=false)\/aC Opn.set q5 q4 st.opens=false\/q10=false)\/ft st v=false->(6:Int)=r0)/\((((q0/\bE q8 q4 q4=true)/\q1)/\q2)/\ft st v=true->q4=r0))/\(q9<=v->q5<=q7/\q5<=q7/\(((q0/\bE q8 q4 (64:Int)=true)/\q1)/\q2->q6<=q12/\q12<=q7)/\((((q3\/bE q8 q4 (64:Int)=false)\/aC Sess.client q5 q4 st.sess=false\/q11=false)\/aC Opn.set q5 q4 st.opens=false\/q10=false)\/ft st v=false->(6:Int)=r0)/\((((q0/\bE q8 q4 (64:Int)=true)/\q1)/\q2)/\ft st v=true->q4=r0)))) ((bE st.version q6 q9=true/\bE q12 q6 q7=true)/\bE st.keep q4 q5=true)) (aC Sess.client q5 q4 st.sess=true/\q11=true)) (aC Opn.set q5 q4 st.opens=true/\q10=true)) ((bE st.version q6 q9=false\/bE q12 q6 q7=false)\/bE st.keep q4 q5=false)) (0:Int)) (8:Int)) (1:Int)) (1048576:Int)) st.quota) (3:Int)) (st.opens.all cN)) (st.sess.all cE)) st.next):=by kernel_rfl
theorem LX (st:State) (v:Int):Sat Tryz.prog (ao aF) 98 [.agg (cellsOf (.nm .state) st),.c (.int (v))] [] ⟨[],[.c (.int ((mayF st v)))],none,false⟩:=by
 refine aM nL [] Tryz.func98 (by decide) (by kernel_rfl) ?_
 rw [LP]
 (repeat' (first | with_reducible refine And.intro ?_ ?_ | with_reducible refine and_imp.2 ?_ | intro))
 all_goals (first | (first | with_reducible rfl | with_reducible assumption | omega | (refine ag ?_ ?_ <;> omega)) | exact (vS (a:=1) (b:=1048576) (by with_reducible assumption)).1 | exact (vS (a:=1) (b:=1048576) (by with_reducible assumption)).2 | (simp only [mayF,ij,uO,qT]; grind))
theorem Hg (c:Command) (v:Int) (r0:Int):cA aF Cf [] Tryz.f24 [.agg (cellsOf (.nm .command) c),.c (.int (v))] [] [.c (.int (r0))]=((fun (q0:Int)=>I64 c.kind->I64 c.client->I64 c.seq->I64 c.set->I64 c.id->I64 c.n->c.chunks.length*(8:Nat)<=(140737488355328:Nat)->c.text.b.length<=(140737488355328:Nat)->I64 v->I64 q0->(cq v=false\/q0=(0:Int)->(1:Int)=r0)/\(cq v=true/\¬q0=(0:Int)->(v<q0->(10:Int)=r0)/\(q0<=v->(eE c=false->(1:Int)=r0)/\(eE c=true->(0:Int)=r0)))) (aQ c.kind)):=by kernel_rfl
theorem Ju (c:Command) (v:Int):Sat Tryz.prog (ao aF) 24 [.agg (cellsOf (.nm .command) c),.c (.int (v))] [] ⟨[],[.c (.int ((aX c v)))],none,false⟩:=by
 refine aM nL [] Tryz.func24 (by decide) (by kernel_rfl) ?_
 rw [Hg]
 rw [show cq v=bE v 1 3 from rfl]
 (repeat' (first | with_reducible refine And.intro ?_ ?_ | with_reducible refine and_imp.2 ?_ | intro))
 all_goals (first | (first | with_reducible rfl | with_reducible assumption | omega | (refine ag ?_ ?_ <;> omega)) | (simp only [aX]; grind))
theorem Jz (st:State) (r0:Int) (r1:Int) (r2:Int) (r3:Int) (r4:List Sess) (r5:List Opn) (r6:List Snap):ma aF Cf (BK st) Tryz.f32 [.agg (cellsOf (.nm .state) st)] [] [.agg ([.int (r0),.int (r1),.int (r2),.int (r3),.own 0,.own 1,.own 2])] [.row 82 (.nm .sess) (r4),.row 63 (.nm .opn) (r5),.row 73 (.nm .snap) (r6)]=((fun (q4:Int)=>(fun (q3:Nat)=>(fun (q2:den (Sh.nm NT.snap))=>(fun (q1:Prop)=>(fun (q0:List Snap)=>I64 q4->I64 st.next->I64 st.keep->I64 st.quota->st.sess.length*(32:Nat)<=q3->st.opens.length*(16:Nat)<=q3->q0.length*(64:Nat)<=q3->∃ (s0:Nat),(fun (q5:Nat)=>((↑q0.length:Int)=(↑q5:Int)/\(0:Int)=(↑s0:Int)/\q4=q4/\st.next=st.next/\st.keep=st.keep/\st.quota=st.quota/\q1/\q1/\q1/\q1/\st.sess=st.sess/\st.opens=st.opens/\q0=q0)/\s0<=q5/\∀ (s:Nat),(fun (q7:den (Sh.nm NT.snap))=>(fun (q6:Prop)=>s<=q5->((↑s:Int)<(↑q5:Int)->(0:Int)<=(↑s:Int)/\(↑s:Int)<(↑q0.length:Int)/\(0:Int)<=(↑s:Int)/\(↑s:Int)<(↑q0.length:Int)/\(I64 q7.id->I64 q7.set->q6->q7.tag.b.length<=q3->q6->I64 q7.id->I64 q7.set->q6->q7.tag.b.length<=q3->I64 ((↑s:Int)+(1:Int))/\∃ (s':Nat),((↑q5:Int)=(↑q5:Int)/\(↑s:Int)+(1:Int)=(↑s':Int)/\q4=q4/\st.next=st.next/\st.keep=st.keep/\st.quota=st.quota/\q1/\q1/\q1/\q1/\st.sess=st.sess/\st.opens=st.opens/\q0.set s q7=q0)/\s' <= q5/\q5 - s' < q5 - s))/\((↑q5:Int)<=(↑s:Int)->q4=r0/\st.next=r1/\st.keep=r2/\st.quota=r3/\st.sess=r4/\st.opens=r5/\q0=r6)) (q7.chunks.length*(8:Nat)<=q3)) (q0.getD s q2)) q0.length) st.snaps) ((0:Int)=(0:Int))) (dflt (Sh.nm NT.snap))) (140737488355328:Nat)) st.version):=by kernel_rfl
theorem HE (st:State):Sat Tryz.prog (ao aF) 32 [.agg (cellsOf (.nm .state) st)] [] ⟨[],[.agg ([.int ((st.version)),.int ((st.next)),.int ((st.keep)),.int ((st.quota)),.own 0,.own 1,.own 2])],some ([.row 82 (.nm .sess) ((st.sess)),.row 63 (.nm .opn) ((st.opens)),.row 73 (.nm .snap) ((st.snaps))]),true⟩:=by
 refine di nL (BK st) Tryz.func32 (by decide) (by kernel_rfl) ?_
 rw [Jz]
 (repeat' (first | with_reducible refine And.intro ?_ ?_ | with_reducible refine and_imp.2 ?_ | intro))
 all_goals try (first | (first | with_reducible rfl | with_reducible assumption | omega | (refine ag ?_ ?_ <;> omega)) | exact rfl | exact (v_ (by omega)))
 all_goals try (refine ⟨0,?_⟩; (repeat' (first | with_reducible refine And.intro ?_ ?_ | with_reducible refine and_imp.2 ?_ | intro)))
 all_goals try (first | (first | with_reducible rfl | with_reducible assumption | omega | (refine ag ?_ ?_ <;> omega)) | exact rfl | exact (v_ (by omega)))
 all_goals try (refine ⟨‹Nat› + 1,?_⟩; (repeat' (first | with_reducible refine And.intro ?_ ?_ | with_reducible refine and_imp.2 ?_ | intro)))
 all_goals (first | (first | with_reducible rfl | with_reducible assumption | omega | (refine ag ?_ ?_ <;> omega)) | exact rfl | exact (v_ (by omega)))
def xA:cH:=(bB 32 (bw (ai (kT (.nm .state)) aH) aJ fun (st,_) (_)=>⟨[],[.agg ([.int ((st.version)),.int ((st.next)),.int ((st.keep)),.int ((st.quota)),.own 0,.own 1,.own 2])],some ([.row 82 (.nm .sess) ((st.sess)),.row 63 (.nm .opn) ((st.opens)),.row 73 (.nm .snap) ((st.snaps))]),true⟩) (bB 24 (bw (ai (kT (.nm .command)) (ai (kC cI) aH)) aJ fun (c,v,_) (_)=>⟨[],[.c (.int ((aX c v)))],none,false⟩) (bB 98 (bw (ai (kT (.nm .state)) (ai (kC cI) aH)) aJ fun (st,v,_) (_)=>⟨[],[.c (.int ((mayF st v)))],none,false⟩) Cf)))
theorem pe:aS Tryz.prog (ao aF) xA:=(aq (au (ab br aj) ak fun (st,_) (_) _=>HE st ) (aq (au (ab br (ab (al av) aj)) ak fun (c,v,_) (_) _=>Ju c v ) (aq (au (ab br (ab (al av) aj)) ak fun (st,v,_) (_) _=>LX st v ) nL)))
end Go.Proofs.YtladifkbefehdaaGreat
namespace Go.Proofs.YtladifkbefehdaaGreat
open Go.RowKit
def ye (l:List Snap) (id:Int) (k:Nat):List Int:=((List.range k).filter fun (i:Nat)=>decide (0<vZ ((i:Int)+1) l) && decide (vZ ((i:Int)+1) (bn id l)=0)).map fun (i:Nat)=>(i:Int)+1
def dr (xs:List Int) (l:List Int):List Int:=l.foldl (fun xs n=>if 1<=n/\n<=64 then xs.set n.toNat (xs.getD n.toNat 0+1) else xs) xs
theorem OC {l:List Snap} {id:Int} (h:nch l<=1048576):nch (bn id l)<=1048576:=by
 refine Nat.le_trans ?_ h
 unfold nch bn
 induction l with
 | nil=>exact Nat.le_refl _
 | cons x l ih=>
  have hl:(l.flatMap Snap.chunks).length<=1048576:=by unfold nch at h; rw [List.flatMap_cons,List.length_append] at h; omega
  have:=ih hl
  rw [List.filter_cons,List.flatMap_cons,List.length_append]
  split
  ·rw [List.flatMap_cons,List.length_append]; omega
  ·omega
def jK (l:List Snap) (id:Int):List Int:=ye l id 64
def pX (xs l:List Int):Prop:=∀ i,0<=xs.getD i 0/\xs.getD i 0+l.length<=4611686018427387904
theorem vR {xs:List Int} {i j:Nat} {v:Int}:(xs.set j v).getD i 0=if j=i/\j<xs.length then v else xs.getD i 0:=by
 rw [List.getD_eq_getElem?_getD,List.getElem?_set,List.getD_eq_getElem?_getD]
 by_cases h:j=i
 ·subst h
  by_cases h2:j<xs.length
  ·simp [h2]
  ·simp [h2]
 ·simp [h]
theorem wJ:∀ (l xs:List Int) (i:Nat),xs.getD i 0<=(dr xs l).getD i 0/\(dr xs l).getD i 0<=xs.getD i 0+l.length
 | [],xs,i=>by simp [dr]
 | n :: l,xs,i=>by
  have h:=wJ l (if 1<=n/\n<=64 then xs.set n.toNat (xs.getD n.toNat 0+1) else xs) i
  have e:dr xs (n :: l)=dr (if 1<=n/\n<=64 then xs.set n.toNat (xs.getD n.toNat 0+1) else xs) l:=rfl
  rw [e]
  have h2:xs.getD i 0<=(if 1<=n/\n<=64 then xs.set n.toNat (xs.getD n.toNat 0+1) else xs).getD i 0/\(if 1<=n/\n<=64 then xs.set n.toNat (xs.getD n.toNat 0+1) else xs).getD i 0<=xs.getD i 0+1:=by
   split
   ·rw [vR]; split
    ·rename_i h3; rw [h3.1]; omega
    ·omega
   ·omega
  rw [List.length_cons]; omega
theorem tX {xs l:List Int} {k:Nat} {n:Int} (hx:l[k]? = some n):dr xs (l.take (k+1))=if 1<=n/\n<=64 then (dr xs (l.take k)).set n.toNat ((dr xs (l.take k)).getD n.toNat 0+1) else dr xs (l.take k):=by
 rw [aB hx,dr,List.foldl_append]; rfl
theorem Et {xs l:List Int} {k:Nat} {n:Int} (hx:l[k]? = some n) (h:1<=n/\n<=64):(dr xs (l.take k)).set n.toNat ((dr xs (l.take k)).getD n.toNat (dflt .int)+1)=dr xs (l.take (k+1)):=by rw [tX hx,if_pos h]; rfl
theorem FE {xs l:List Int} {k:Nat} {n:Int} (hx:l[k]? = some n) (h:¬ (1<=n/\n<=64)):dr xs (l.take k)=dr xs (l.take (k+1)):=by rw [tX hx,if_neg h]
theorem Gy {xs l:List Int} {k:Nat} {n:Int} (h:pX xs l):I64 ((dr xs (l.take k)).getD n.toNat (dflt .int)+1):=by
 have h1:=wJ (l.take k) xs n.toNat
 have h2:=h n.toNat
 rw [List.length_take] at h1
 show I64 ((dr xs (l.take k)).getD n.toNat 0+1)
 constructor <;> omega
def Pc (l:List Int) (xs:List Int):List (Nat × LI):=[(1,{ σ:=Nat,F:=fun k=>([(0,one (.ptr 0 0)),(6,one (.fz .int (l))),(7,one (.int (l).length)),(8,one (.int k))],[.arr 201 .int 65 ((dr xs (l.take k)))]),J:=fun k=>k<=l.length,μ:=fun k=>(l).length - k })]
theorem OB (st:State) (c:Command) (r0:Int):cA aF xA [] Tryz.f61 [.agg (cellsOf (.nm .state) st),.agg (cellsOf (.nm .command) c)] [] [.c (.int (r0))]=((fun (q0:Int)=>I64 q0->I64 st.next->I64 st.keep->I64 st.quota->st.sess.length*(32:Nat)<=(140737488355328:Nat)->st.opens.length*(16:Nat)<=(140737488355328:Nat)->st.snaps.length*(64:Nat)<=(140737488355328:Nat)->I64 c.kind->I64 c.client->I64 c.seq->I64 c.set->I64 c.id->I64 c.n->c.chunks.length*(8:Nat)<=(140737488355328:Nat)->c.text.b.length<=(140737488355328:Nat)->I64 (mayF st q0)->(¬mayF st q0=(0:Int)->(1:Int)=r0)/\(mayF st q0=(0:Int)->I64 (aX c q0)->aX c q0=r0)) st.version):=by kernel_rfl
theorem NK (st:State) (c:Command):Sat Tryz.prog (ao aF) 61 [.agg (cellsOf (.nm .state) st),.agg (cellsOf (.nm .command) c)] [] ⟨[],[.c (.int ((if mayF st st.version=0 then aX c st.version else 1)))],none,false⟩:=by
 refine aM pe [] Tryz.func61 (by decide) (by kernel_rfl) ?_
 rw [OB]
 grind
theorem Ph (l:List Int) (xs:List Int) (r0:List Int):nh aF xA (Pc l xs) Tryz.f188 [.c (.ptr 0 0),.c (.fz .int (l))] [.arr 201 .int 65 (xs)] [] [.arr 201 .int 65 (r0)]=((fun (q1:Int)=>(fun (q0:Nat)=>l.length*(8:Nat)<=(140737488355328:Nat)->∃ (s0:Nat),(fun (q2:Int)=>(l=l/\(↑l.length:Int)=q2/\(0:Int)=(↑s0:Int)/\xs=dr xs (List.take s0 l))/\s0<=q0/\∀ (s:Nat),(fun (q4:Int)=>(fun (q3:List Int)=>s<=q0->((↑s:Int)<q2->(0:Int)<=(↑s:Int)/\(↑s:Int)<(↑l.length:Int)/\∀ (x:Int),(fun (q5:den Sh.int)=>l[s]? = some x->I64 x->(q1<=x/\x<=(64:Int)->(0:Int)<=x/\x<(↑(65:Nat):Int)/\x.toNat<(65:Nat)/\I64 (q5+q1)/\(0:Int)<=x/\x<(↑(65:Nat):Int)/\(I64 q5->x.toNat<(65:Nat)/\I64 q4/\∃ (s':Nat),(l=l/\q2=q2/\q4=(↑s':Int)/\q3.set x.toNat (q5+q1)=dr xs (List.take s' l))/\s' <= q0/\q0 - s' < q0 - s))/\(x<q1\/(64:Int)<x->I64 q4/\∃ (s':Nat),(l=l/\q2=q2/\q4=(↑s':Int)/\q3=dr xs (List.take s' l))/\s' <= q0/\q0 - s' < q0 - s)) (q3.getD x.toNat (dflt Sh.int)))/\(q2<=(↑s:Int)->q3=r0)) (dr xs (List.take s l))) ((↑s:Int)+q1)) (↑q0:Int)) l.length) (1:Int)):=by kernel_rfl
theorem PM (l:List Int) (xs:List Int) (h0:pX xs l):Sat Tryz.prog (ao aF) 188 [.c (.ptr 0 0),.c (.fz .int (l))] [.arr 201 .int 65 (xs)] ⟨[pX xs l],[],some ([.arr 201 .int 65 ((dr xs l))]),false⟩:=by
 refine dy pe (Pc l xs) Tryz.func188 (by decide) (by kernel_rfl) ?_
 rw [Ph]
 (repeat' (first | with_reducible refine And.intro ?_ ?_ | with_reducible refine and_imp.2 ?_ | intro))
 all_goals try (first | (first | with_reducible rfl | with_reducible assumption | omega | (refine ag ?_ ?_ <;> omega)) | exact rfl | exact (Et (by with_reducible assumption) (by constructor <;> omega)) | exact (FE (by with_reducible assumption) (by omega)) | exact (by rw [List.take_of_length_le (by omega)]) | exact (Gy (by with_reducible assumption)))
 all_goals try (refine ⟨0,?_⟩; (repeat' (first | with_reducible refine And.intro ?_ ?_ | with_reducible refine and_imp.2 ?_ | intro)))
 all_goals try (first | (first | with_reducible rfl | with_reducible assumption | omega | (refine ag ?_ ?_ <;> omega)) | exact rfl | exact (Et (by with_reducible assumption) (by constructor <;> omega)) | exact (FE (by with_reducible assumption) (by omega)) | exact (by rw [List.take_of_length_le (by omega)]) | exact (Gy (by with_reducible assumption)))
 all_goals try (refine ⟨‹Nat› + 1,?_⟩; (repeat' (first | with_reducible refine And.intro ?_ ?_ | with_reducible refine and_imp.2 ?_ | intro)))
 all_goals (first | (first | with_reducible rfl | with_reducible assumption | omega | (refine ag ?_ ?_ <;> omega)) | exact rfl | exact (Et (by with_reducible assumption) (by constructor <;> omega)) | exact (FE (by with_reducible assumption) (by omega)) | exact (by rw [List.take_of_length_le (by omega)]) | exact (Gy (by with_reducible assumption)))
def Kc:cH:=(bB 188 (bw (ai (kC (bX 0 0)) (ai (kC (cL .int)) aH)) (ay (rW 201 .int 65) aJ) fun (_,l,_) (xs,_)=>⟨[pX xs l],[],some ([.arr 201 .int 65 ((dr xs l))]),false⟩) (bB 61 (bw (ai (kT (.nm .state)) (ai (kT (.nm .command)) aH)) aJ fun (st,c,_) (_)=>⟨[],[.c (.int ((if mayF st st.version=0 then aX c st.version else 1)))],none,false⟩) xA))
theorem EK:aS Tryz.prog (ao aF) Kc:=(aq (au (ab (al aL) (ab (al bp) aj)) (ah gW ak) fun (_,l,_) (xs,_) hp=>PM l xs (dx hp)) (aq (au (ab br (ab br aj)) ak fun (st,c,_) (_) _=>NK st c ) pe))
end Go.Proofs.YtladifkbefehdaaGreat
namespace Go.Proofs.YtladifkbefehdaaGreat
open Go.RowKit
section
variable {B:Bool} {k:Nat}
variable {st:State} {v:Int}
end
def Ek:cH:=Kc
theorem tz:aS Tryz.prog (ao aF) Ek:=EK
end Go.Proofs.YtladifkbefehdaaGreat
namespace Go.Proofs.YtladifkbefehdaaGreat
open Go.RowKit
theorem Fl {c:Command} {lo hi:Int} (hlo:lo=(kr c.kind).1) (hhi:hi=(kr c.kind).2):((((((gf c.client (!decide (c.kind=8)) 1 8 && gf c.seq (!decide (c.kind=8) && !decide (c.kind=1)) 1 1048576) && gf c.set (bE c.kind 2 4) 1 8) && gf c.id (decide (c.kind=5) || decide (c.kind=7) || bE c.kind 9 11) 1 1048576) && gf c.n (decide (c.kind=6) || decide (c.kind=8) || decide (c.kind=12)) lo hi) && xc c) && (decide (((c.text.b.length:Nat):Int)=0) || (decide (c.kind=11) && decide (((c.text.b.length:Nat):Int)<=16))))=eE c:=by
 subst hlo; subst hhi; exact Cz
theorem RI {c:Command} {v:Int} (h:bE v 1 3=false\/aQ c.kind=0):1=aX c v:=by
 refine PJ ?_
 rcases h with h | h
 ·rw [h]; rfl
 ·rw [decide_eq_true h,Bool.or_true]
theorem Le {c:Command} {v:Int} (h1:bE v 1 3=true) (h2:¬ aQ c.kind=0):(!(bE v 1 3) || decide (aQ c.kind=0))=false:=by rw [h1,decide_eq_false h2]; rfl
theorem PN {c:Command} {v:Int} (h1:bE v 1 3=true) (h2:¬ aQ c.kind=0) (h3:v<aQ c.kind):10=aX c v:=NO (Le h1 h2) h3
theorem RW {c:Command} {v lo hi:Int} {p:Prop} (h1:bE v 1 3=true) (h2:¬ aQ c.kind=0) (h3:aQ c.kind<=v) (h:((((((gf c.client (!decide (c.kind=8)) 1 8=false\/gf c.seq (!decide (c.kind=8) && !decide (c.kind=1)) 1 1048576=false)\/gf c.set (bE c.kind 2 4) 1 8=false)\/gf c.id (decide (c.kind=5) || decide (c.kind=7) || bE c.kind 9 11) 1 1048576=false)\/gf c.n (decide (c.kind=6) || decide (c.kind=8) || decide (c.kind=12)) lo hi=false)\/p)\/¬ ((c.text.b.length:Nat):Int)=0/\(¬ c.kind=11\/16<((c.text.b.length:Nat):Int)))) (hlo:lo=(kr c.kind).1) (hhi:hi=(kr c.kind).2) (hp:p->xc c=false):1=aX c v:=by
 refine Li (Le h1 h2) (by omega) ?_
 rw [<- Fl hlo hhi]
 rcases h with (((((h | h) | h) | h) | h) | h) | ⟨h,k⟩
 ·rw [h]; simp
 ·rw [h]; simp
 ·rw [h]; simp
 ·rw [h]; simp
 ·rw [h]; simp
 ·rw [hp h]; simp
 ·rcases k with k | k
  ·rw [decide_eq_false h,decide_eq_false k]; simp
  ·rw [decide_eq_false h,decide_eq_false (show ¬ ((c.text.b.length:Nat):Int)<=16 by omega)]; simp
theorem Rk {c:Command} {v lo hi:Int} (h1:bE v 1 3=true) (h2:¬ aQ c.kind=0) (h3:aQ c.kind<=v) (ha:gf c.client (!decide (c.kind=8)) 1 8=true) (hb:gf c.seq (!decide (c.kind=8) && !decide (c.kind=1)) 1 1048576=true) (hc:gf c.set (bE c.kind 2 4) 1 8=true) (hd:gf c.id (decide (c.kind=5) || decide (c.kind=7) || bE c.kind 9 11) 1 1048576=true) (he:gf c.n (decide (c.kind=6) || decide (c.kind=8) || decide (c.kind=12)) lo hi=true) (hq:xc c=true) (ht:((c.text.b.length:Nat):Int)=0\/c.kind=11/\((c.text.b.length:Nat):Int)<=16) (hlo:lo=(kr c.kind).1) (hhi:hi=(kr c.kind).2):0=aX c v:=by
 refine QJ (Le h1 h2) (by omega) ?_
 rw [<- Fl hlo hhi,ha,hb,hc,hd,he,hq]
 rcases ht with ht | ⟨ht,k⟩
 ·rw [decide_eq_true ht]; rfl
 ·rw [decide_eq_true ht,decide_eq_true k]; simp
theorem Qg {c:Command} {b:Bool} (h:c.kind=3) (k:rowF c.chunks=b):xc c=b:=by rw [xc,if_pos h]; exact k
theorem QN {c:Command} (h:¬ c.kind=3) (k:¬ ((c.chunks.length:Nat):Int)=0):xc c=false:=by rw [xc,if_neg h]; exact decide_eq_false k
theorem K_ {c:Command} (h:¬ c.kind=3) (k:((c.chunks.length:Nat):Int)=0):xc c=true:=by rw [xc,if_neg h]; exact decide_eq_true k
theorem Ny (c:Command) (v:Int) (r0:Int):cA aF Ek [] Tryz.f26 [.agg (cellsOf (.nm .command) c),.c (.int (v))] [] [.c (.int (r0))]=((fun (q14:Int)=>(fun (q13:Int)=>(fun (q12:Int)=>(fun (q11:Bool)=>(fun (q10:Int)=>(fun (q9:Int)=>(fun (q8:Int)=>(fun (q7:Int)=>(fun (q6:Int)=>(fun (q5:Prop)=>(fun (q4:Prop)=>(fun (q3:Prop)=>(fun (q2:Bool)=>(fun (q1:Prop)=>(fun (q0:Prop)=>I64 q6->I64 c.client->I64 c.seq->I64 c.set->I64 c.id->I64 c.n->c.chunks.length*(8:Nat)<=(140737488355328:Nat)->c.text.b.length<=(140737488355328:Nat)->I64 v->(bE v q7 q9=true->I64 (aQ q6))->(bE v q7 q9=false\/aQ q6=q8->q7=r0)/\(bE v q7 q9=true/\¬aQ q6=q8->I64 (aQ q6)->(v<aQ q6->(10:Int)=r0)/\(aQ q6<=v->(q6=q10->(q6=(12:Int)->(q6=q9->(((q0\/gf c.n q2 q12 q14=false)\/q11=false)\/q3->q7=r0)/\(((q1/\gf c.n q2 q12 q14=true)/\q11=true)/\q4->q8=r0))/\(¬q6=q9->(((q0\/gf c.n q2 q12 q14=false)\/¬q5)\/q3->q7=r0)/\(((q1/\gf c.n q2 q12 q14=true)/\q5)/\q4->q8=r0)))/\(¬q6=(12:Int)->(q6=q9->(((q0\/gf c.n q2 q12 q9=false)\/q11=false)\/q3->q7=r0)/\(((q1/\gf c.n q2 q12 q9=true)/\q11=true)/\q4->q8=r0))/\(¬q6=q9->(((q0\/gf c.n q2 q12 q9=false)\/¬q5)\/q3->q7=r0)/\(((q1/\gf c.n q2 q12 q9=true)/\q5)/\q4->q8=r0))))/\(¬q6=q10->(q6=(12:Int)->(q6=q9->(((q0\/gf c.n q2 q8 q14=false)\/q11=false)\/q3->q7=r0)/\(((q1/\gf c.n q2 q8 q14=true)/\q11=true)/\q4->q8=r0))/\(¬q6=q9->(((q0\/gf c.n q2 q8 q14=false)\/¬q5)\/q3->q7=r0)/\(((q1/\gf c.n q2 q8 q14=true)/\q5)/\q4->q8=r0)))/\(¬q6=(12:Int)->(q6=q9->(((q0\/gf c.n q2 q8 q10=false)\/q11=false)\/q3->q7=r0)/\(((q1/\gf c.n q2 q8 q10=true)/\q11=true)/\q4->q8=r0))/\(¬q6=q9->(((q0\/gf c.n q2 q8 q10=false)\/¬q5)\/q3->q7=r0)/\(((q1/\gf c.n q2 q8 q10=true)/\q5)/\q4->q8=r0))))))) (((gf c.client (!decide (q6=q10)) q7 q10=false\/gf c.seq (!decide (q6=q10) && !decide (q6=q7)) q7 (1048576:Int)=false)\/gf c.set (bE q6 q12 (4:Int)) q7 q10=false)\/gf c.id (decide (q6=(5:Int)) || decide (q6=(7:Int)) || bE q6 (9:Int) (11:Int)) q7 (1048576:Int)=false)) (((gf c.client (!decide (q6=q10)) q7 q10=true/\gf c.seq (!decide (q6=q10) && !decide (q6=q7)) q7 (1048576:Int)=true)/\gf c.set (bE q6 q12 (4:Int)) q7 q10=true)/\gf c.id (decide (q6=(5:Int)) || decide (q6=(7:Int)) || bE q6 (9:Int) (11:Int)) q7 (1048576:Int)=true)) (decide (q6=(6:Int)) || decide (q6=q10) || decide (q6=(12:Int)))) (¬q13=q8/\(¬q6=(11:Int)\/(16:Int)<q13))) (q13=q8\/q6=(11:Int)/\q13<=(16:Int))) ((↑c.chunks.length:Int)=q8)) c.kind) (1:Int)) (0:Int)) (3:Int)) (8:Int)) (rowF c.chunks)) (2:Int)) (↑c.text.b.length:Int)) (64:Int)):=by kernel_rfl
theorem NV (c:Command) (v:Int):Sat Tryz.prog (ao aF) 26 [.agg (cellsOf (.nm .command) c),.c (.int (v))] [] ⟨[],[.c (.int ((aX c v)))],none,false⟩:=by
 refine aM tz [] Tryz.func26 (by decide) (by kernel_rfl) ?_
 rw [Ny]
 (repeat' (first | with_reducible refine And.intro ?_ ?_ | with_reducible refine and_imp.2 ?_ | intro))
 all_goals (first | (first | with_reducible rfl | with_reducible assumption | omega | (refine ag ?_ ?_ <;> omega)) | exact RI (by assumption) | exact PN (by with_reducible assumption) (by with_reducible assumption) (by omega) | exact RW (by with_reducible assumption) (by with_reducible assumption) (by omega) (by assumption) (by simp only [kr]; (repeat split) <;> omega) (by simp only [kr]; (repeat split) <;> omega) (fun hq=>by first | exact Qg (by with_reducible assumption) hq | exact QN (by with_reducible assumption) hq | exact K_ (by with_reducible assumption) hq) | exact Rk (by with_reducible assumption) (by with_reducible assumption) (by omega) (by with_reducible assumption) (by with_reducible assumption) (by with_reducible assumption) (by with_reducible assumption) (by with_reducible assumption) (by first | exact Qg (by with_reducible assumption) (by with_reducible assumption) | exact K_ (by with_reducible assumption) (by with_reducible assumption)) (by assumption) (by simp only [kr]; (repeat split) <;> omega) (by simp only [kr]; (repeat split) <;> omega))
def qD:cH:=(bB 26 (bw (ai (kT (.nm .command)) (ai (kC cI) aH)) aJ fun (c,v,_) (_)=>⟨[],[.c (.int ((aX c v)))],none,false⟩) Ek)
theorem iG:aS Tryz.prog (ao aF) qD:=(aq (au (ab br (ab (al av) aj)) ak fun (c,v,_) (_) _=>NV c v ) tz)
end Go.Proofs.YtladifkbefehdaaGreat
namespace Go.Proofs.YtladifkbefehdaaGreat
open Go.RowKit
def dZ (xs:List Int) (c:Int):Bool:=decide (0<xs.getD c.toNat (dflt .int))
def dW (xs ys:List Int) (c:Int):Bool:=decide (0<xs.getD c.toNat (dflt .int)) && decide (ys.getD c.toNat (dflt .int)=0)
def hY (p:Int->Bool) (k:Nat):List Int:=((List.range k).map fun (i:Nat)=>(i:Int)+1).filter p
theorem zH {p:Int->Bool} {k:Nat} (h:p ((k:Int)+1)=true):hY p k++[(k:Int)+1]=hY p (k+1):=by
 unfold hY; rw [List.range_succ,List.map_append,List.filter_append]; simp [h]
theorem zo {p:Int->Bool} {k:Nat} (h:p ((k:Int)+1)=false):hY p k=hY p (k+1):=by
 unfold hY; rw [List.range_succ,List.map_append,List.filter_append]; simp [h]
theorem Ak {p:Int->Bool} {k:Nat} (h:k<=64) (h2:64<(k:Int)+1):hY p k=hY p 64:=by rw [show k=64 by omega]
theorem mi {p:Int->Bool} {k:Nat} {n:Int} (h:k<=64):((hY p k).length+[n].length)*8<=140737488355328:=by
 have:=List.length_filter_le p ((List.range k).map fun (i:Nat)=>(i:Int)+1)
 rw [List.length_map,List.length_range] at this
 unfold hY; simp only [List.length_cons,List.length_nil]; omega
def bZ (l:List Snap):List Int:=l.foldl (fun t x=>dr t x.chunks) (List.replicate 65 0)
theorem oB:∀ (l xs:List Int),(dr xs l).length=xs.length
 | [],_=>rfl
 | n :: l,xs=>by
  show (dr (if 1<=n/\n<=64 then xs.set n.toNat (xs.getD n.toNat 0+1) else xs) l).length=_
  rw [oB l]; split
  ·rw [List.length_set]
  ·rfl
theorem iO {l:List Snap} {x:Snap}:bZ (l++[x])=dr (bZ l) x.chunks:=by unfold bZ; rw [List.foldl_append]; rfl
theorem wk {l:List Snap} {k:Nat} {x:Snap} (hx:l[k]? = some x):dr (bZ (l.take k)) x.chunks=bZ (l.take (k+1)):=by rw [aB hx,iO]
theorem rz {p:List Snap->Prop} (h0:p []) (hs:∀ l x,p l->p (l++[x])) (l:List Snap):p l:=by
 have:∀ r:List Snap,p r.reverse:=fun r=>by
  induction r with
  | nil=>exact h0
  | cons x r ih=>rw [List.reverse_cons]; exact hs _ _ ih
 have h:=this l.reverse
 rwa [List.reverse_reverse] at h
theorem eZ (l:List Snap):(bZ l).length=65:=by
 refine rz (p:=fun l=>(bZ l).length=65) rfl (fun l x h=>?_) l
 rw [iO,oB,h]
theorem uh {l:List Snap} {x:Snap}:nch (l++[x])=nch l+x.chunks.length:=by unfold nch; simp
theorem Br (l:List Snap) (i:Nat):0<=(bZ l).getD i 0/\(bZ l).getD i 0<=nch l:=by
 refine rz (p:=fun l=>0<=(bZ l).getD i 0/\(bZ l).getD i 0<=nch l) ?_ (fun l x h=>?_) l
 ·show 0<=(List.replicate 65 (0:Int)).getD i 0/\(List.replicate 65 (0:Int)).getD i 0<=_
  rw [List.getD_eq_getElem?_getD,List.getElem?_replicate]; split <;> simp
 ·have:=wJ x.chunks (bZ l) i
  rw [iO,uh]; omega
theorem ji {l:List Snap} {k:Nat} {x:Snap} (hx:l[k]? = some x) (h:nch l<=1048576):pX (bZ (l.take k)) x.chunks:=fun i=>by
 have h1:=Br (l.take k) i
 have h2:nch (l.take (k+1))<=nch l:=by
  unfold nch; rw [<- List.take_append_drop (k+1) l,List.flatMap_append,List.length_append,List.take_append_drop]; omega
 rw [aB hx,uh] at h2
 omega
theorem ym {l:List Snap} {m:List Int} {s:Sh} (h:nch l<=1048576) (hm:m.length*8<=140737488355328):pX (po .int (bZ l) 0 65) m:=fun i=>by
 rw [fu (eZ l)]
 have h1:=Br l i
 omega
theorem yU:∀ (l xs:List Int) (c:Int),1<=c->c<=64->xs.length=65->(dr xs l).getD c.toNat 0=xs.getD c.toNat 0+(l.count c:Nat)
 | [],_,_,_,_,_=>by simp [dr]
 | n :: l,xs,c,h1,h2,h3=>by
  show (dr (if 1<=n/\n<=64 then xs.set n.toNat (xs.getD n.toNat 0+1) else xs) l).getD c.toNat 0=_
  rw [yU l _ c h1 h2 (by split; rw [List.length_set,h3]; exact h3),List.count_cons]
  split
  ·rw [vR]
   by_cases e:n=c
   ·subst e; rw [if_pos ⟨rfl,by omega⟩]; simp; omega
   ·rw [if_neg (by omega)]; simp [e]
  ·by_cases e:n=c
   ·omega
   ·simp [e]
theorem wD (l:List Snap) (c:Int) (h1:1<=c) (h2:c<=64):(bZ l).getD c.toNat 0=(vZ c l:Nat):=by
 refine rz (p:=fun l=>(bZ l).getD c.toNat 0=(vZ c l:Nat)) ?_ (fun l x h=>?_) l
 ·show (List.replicate 65 (0:Int)).getD c.toNat 0=_
  rw [List.getD_eq_getElem?_getD,List.getElem?_replicate]; split <;> simp [vZ]
 ·rw [iO,yU _ _ _ h1 h2 (eZ l),h]
  unfold vZ; simp
theorem yX (l:List Snap):((hY (dZ (bZ l)) 64).length:Int)=(distF l:Int):=by
 unfold hY distF Fc
 rw [List.filter_map,List.length_map]
 congr 2
 apply List.filter_congr
 intro i hi
 rw [List.mem_range] at hi
 have:=wD l ((i:Int)+1) (by omega) (by omega)
 simp only [Function.comp,dZ]
 rw [show (dflt .int)=(0:Int) from rfl,this]
 rw [decide_eq_decide]; omega
theorem Dg (l m:List Snap) (id:Int) (e:m=bn id l):hY (dW (bZ l) (bZ m)) 64=jK l id:=by
 subst e
 unfold hY jK ye
 rw [List.filter_map]
 congr 1
 apply List.filter_congr
 intro i hi
 rw [List.mem_range] at hi
 have h1:=wD l ((i:Int)+1) (by omega) (by omega)
 have h2:=wD (bn id l) ((i:Int)+1) (by omega) (by omega)
 simp only [Function.comp,dW]
 rw [show (dflt .int)=(0:Int) from rfl,h1,h2]
 congr 1 <;> (rw [decide_eq_decide]; omega)
def Ev (l:List Snap):List (Nat × LI):=[(3,{ σ:=Nat,F:=fun k=>([(2,one (.ptr 0 0)),(3,one (.ptr 1 0)),(6,one (.fz (.nm .snap) (l))),(7,one (.int (l).length)),(8,one (.int k))],[.arr 201 .int 65 ((List.replicate 65 0)),.arr 201 .int 65 ((bZ (l.take k)))]),J:=fun k=>k<=l.length,μ:=fun k=>l.length - k })]
def um (l:List Snap) (id:Int):List (Nat × LI):=[(3,{ σ:=Nat,F:=fun k=>([(1,one (.int (id))),(5,one (.own 0)),(8,one (.fz (.nm .snap) (l))),(9,one (.int (l).length)),(10,one (.int k))],[.row 73 (.nm .snap) ((bn id (l.take k)))]),J:=fun k=>k<=l.length,μ:=fun k=>l.length - k })]
theorem IP (n:Int) (xs:List Int) (r0:Bool):cA aF qD [] Tryz.f190 [.c (.int (n)),.c (.ptr 0 0)] [.arr 201 .int 65 (xs)] [.c (.bool (.atom (r0)))]=(I64 n->(0:Int)<=n/\n<(↑(65:Nat):Int)/\n.toNat<(65:Nat)/\(I64 (xs.getD n.toNat (dflt Sh.int))->decide ((0:Int)<xs.getD n.toNat (dflt Sh.int))=r0)):=by kernel_rfl
theorem IA (n:Int) (xs:List Int) (h0:0<=n/\n<65):Sat Tryz.prog (ao aF) 190 [.c (.int (n)),.c (.ptr 0 0)] [.arr 201 .int 65 (xs)] ⟨[0<=n/\n<65],[.c (.bool (.atom ((dZ xs n))))],none,false⟩:=by
 refine aM iG [] Tryz.func190 (by decide) (by kernel_rfl) ?_
 rw [IP]
 (repeat' (first | with_reducible refine And.intro ?_ ?_ | with_reducible refine and_imp.2 ?_ | intro)) <;> first | (first | with_reducible rfl | with_reducible assumption | omega | (refine ag ?_ ?_ <;> omega)) | rfl
theorem Gg (n:Int) (xs:List Int) (ys:List Int) (r0:Bool):cA aF qD [] Tryz.f191 [.c (.int (n)),.c (.ptr 0 0),.c (.ptr 1 0)] [.arr 201 .int 65 (xs),.arr 201 .int 65 (ys)] [.c (.bool (.atom (r0)))]=((fun (q1:Int)=>(fun (q0:den Sh.int)=>I64 n->q1<=n/\n<(↑(65:Nat):Int)/\n.toNat<(65:Nat)/\(I64 q0->(q1<q0->q1<=n/\n<(↑(65:Nat):Int)/\n.toNat<(65:Nat))/\((q1<q0->I64 (ys.getD n.toNat (dflt Sh.int)))->(decide (q1<q0) && decide (ys.getD n.toNat (dflt Sh.int)=q1))=r0))) (xs.getD n.toNat (dflt Sh.int))) (0:Int)):=by kernel_rfl
theorem ED (n:Int) (xs:List Int) (ys:List Int) (h0:0<=n/\n<65):Sat Tryz.prog (ao aF) 191 [.c (.int (n)),.c (.ptr 0 0),.c (.ptr 1 0)] [.arr 201 .int 65 (xs),.arr 201 .int 65 (ys)] ⟨[0<=n/\n<65],[.c (.bool (.atom ((dW xs ys n))))],none,false⟩:=by
 refine aM iG [] Tryz.func191 (by decide) (by kernel_rfl) ?_
 rw [Gg]
 (repeat' (first | with_reducible refine And.intro ?_ ?_ | with_reducible refine and_imp.2 ?_ | intro)) <;> first | (first | with_reducible rfl | with_reducible assumption | omega | (refine ag ?_ ?_ <;> omega)) | rfl
theorem HX (l:List Snap) (r0:List Int):cA aF qD (Ev l) Tryz.f181 [.c (.fz (.nm .snap) (l))] [] [.agg (jC .int (r0) 0 65)]=((fun (q5:Nat)=>(fun (q4:Nat)=>(fun (q3:Nat)=>(fun (q2:Int)=>(fun (q1:den Sh.int)=>(fun (q0:List (den Sh.int))=>l.length*(64:Nat)<=(140737488355328:Nat)->∃ (s0:Nat),(l=l/\(↑l.length:Int)=(↑q5:Int)/\q2=(↑s0:Int)/\q0=List.replicate q3 (0:den Sh.int)/\q0=bZ (List.take s0 l))/\s0<=q5/\∀ (s:Nat),(fun (q7:List Int)=>(fun (q6:List (den Sh.int))=>s<=q5->((↑s:Int)<(↑q5:Int)->q2<=(↑s:Int)/\(↑s:Int)<(↑l.length:Int)/\∀ (x:Snap),l[s]? = some x->I64 x.id->I64 x.set->x.chunks.length*(8:Nat)<=(140737488355328:Nat)->x.tag.b.length<=(140737488355328:Nat)->(∀ (i:Nat),q2<=q7.getD i q2/\q7.getD i q2+(↑x.chunks.length:Int)<=(4611686018427387904:Int))/\I64 ((↑s:Int)+(1:Int))/\∃ (s':Nat),(l=l/\(↑q5:Int)=(↑q5:Int)/\(↑s:Int)+(1:Int)=(↑s':Int)/\List.replicate q3 (0:den Sh.int)=List.replicate q3 (0:den Sh.int)/\dr q7 x.chunks=bZ (List.take s' l))/\s' <= q5/\q5 - s' < q5 - s)/\((↑q5:Int)<=(↑s:Int)->q6.getD q4 q1=r0.getD q4 q1/\q6.getD (1:Nat) q1=r0.getD (1:Nat) q1/\q6.getD (2:Nat) q1=r0.getD (2:Nat) q1/\q6.getD (3:Nat) q1=r0.getD (3:Nat) q1/\q6.getD (4:Nat) q1=r0.getD (4:Nat) q1/\q6.getD (5:Nat) q1=r0.getD (5:Nat) q1/\q6.getD (6:Nat) q1=r0.getD (6:Nat) q1/\q6.getD (7:Nat) q1=r0.getD (7:Nat) q1/\q6.getD (8:Nat) q1=r0.getD (8:Nat) q1/\q6.getD (9:Nat) q1=r0.getD (9:Nat) q1/\q6.getD (10:Nat) q1=r0.getD (10:Nat) q1/\q6.getD (11:Nat) q1=r0.getD (11:Nat) q1/\q6.getD (12:Nat) q1=r0.getD (12:Nat) q1/\q6.getD (13:Nat) q1=r0.getD (13:Nat) q1/\q6.getD (14:Nat) q1=r0.getD (14:Nat) q1/\q6.getD (15:Nat) q1=r0.getD (15:Nat) q1/\q6.getD (16:Nat) q1=r0.getD (16:Nat) q1/\q6.getD (17:Nat) q1=r0.getD (17:Nat) q1/\q6.getD (18:Nat) q1=r0.getD (18:Nat) q1/\q6.getD (19:Nat) q1=r0.getD (19:Nat) q1/\q6.getD (20:Nat) q1=r0.getD (20:Nat) q1/\q6.getD (21:Nat) q1=r0.getD (21:Nat) q1/\q6.getD (22:Nat) q1=r0.getD (22:Nat) q1/\q6.getD (23:Nat) q1=r0.getD (23:Nat) q1/\q6.getD (24:Nat) q1=r0.getD (24:Nat) q1/\q6.getD (25:Nat) q1=r0.getD (25:Nat) q1/\q6.getD (26:Nat) q1=r0.getD (26:Nat) q1/\q6.getD (27:Nat) q1=r0.getD (27:Nat) q1/\q6.getD (28:Nat) q1=r0.getD (28:Nat) q1/\q6.getD (29:Nat) q1=r0.getD (29:Nat) q1/\q6.getD (30:Nat) q1=r0.getD (30:Nat) q1/\q6.getD (31:Nat) q1=r0.getD (31:Nat) q1/\q6.getD (32:Nat) q1=r0.getD (32:Nat) q1/\q6.getD (33:Nat) q1=r0.getD (33:Nat) q1/\q6.getD (34:Nat) q1=r0.getD (34:Nat) q1/\q6.getD (35:Nat) q1=r0.getD (35:Nat) q1/\q6.getD (36:Nat) q1=r0.getD (36:Nat) q1/\q6.getD (37:Nat) q1=r0.getD (37:Nat) q1/\q6.getD (38:Nat) q1=r0.getD (38:Nat) q1/\q6.getD (39:Nat) q1=r0.getD (39:Nat) q1/\q6.getD (40:Nat) q1=r0.getD (40:Nat) q1/\q6.getD (41:Nat) q1=r0.getD (41:Nat) q1/\q6.getD (42:Nat) q1=r0.getD (42:Nat) q1/\q6.getD (43:Nat) q1=r0.getD (43:Nat) q1/\q6.getD (44:Nat) q1=r0.getD (44:Nat) q1/\q6.getD (45:Nat) q1=r0.getD (45:Nat) q1/\q6.getD (46:Nat) q1=r0.getD (46:Nat) q1/\q6.getD (47:Nat) q1=r0.getD (47:Nat) q1/\q6.getD (48:Nat) q1=r0.getD (48:Nat) q1/\q6.getD (49:Nat) q1=r0.getD (49:Nat) q1/\q6.getD (50:Nat) q1=r0.getD (50:Nat) q1/\q6.getD (51:Nat) q1=r0.getD (51:Nat) q1/\q6.getD (52:Nat) q1=r0.getD (52:Nat) q1/\q6.getD (53:Nat) q1=r0.getD (53:Nat) q1/\q6.getD (54:Nat) q1=r0.getD (54:Nat) q1/\q6.getD (55:Nat) q1=r0.getD (55:Nat) q1/\q6.getD (56:Nat) q1=r0.getD (56:Nat) q1/\q6.getD (57:Nat) q1=r0.getD (57:Nat) q1/\q6.getD (58:Nat) q1=r0.getD (58:Nat) q1/\q6.getD (59:Nat) q1=r0.getD (59:Nat) q1/\q6.getD (60:Nat) q1=r0.getD (60:Nat) q1/\q6.getD (61:Nat) q1=r0.getD (61:Nat) q1/\q6.getD (62:Nat) q1=r0.getD (62:Nat) q1/\q6.getD (63:Nat) q1=r0.getD (63:Nat) q1/\q6.getD (64:Nat) q1=r0.getD (64:Nat) q1)) (po Sh.int q7 q4 q3)) (bZ (List.take s l))) [q2,q2,q2,q2,q2,q2,q2,q2,q2,q2,q2,q2,q2,q2,q2,q2,q2,q2,q2,q2,q2,q2,q2,q2,q2,q2,q2,q2,q2,q2,q2,q2,q2,q2,q2,q2,q2,q2,q2,q2,q2,q2,q2,q2,q2,q2,q2,q2,q2,q2,q2,q2,q2,q2,q2,q2,q2,q2,q2,q2,q2,q2,q2,q2,q2]) (dflt Sh.int)) (0:Int)) (65:Nat)) (0:Nat)) l.length):=by kernel_rfl
theorem Ja (l:List Snap) (h0:nch l<=1048576):Sat Tryz.prog (ao aF) 181 [.c (.fz (.nm .snap) (l))] [] ⟨[nch l<=1048576],[.agg (jC .int ((bZ l)) 0 65)],none,false⟩:=by
 refine aM iG (Ev l) Tryz.func181 (by decide) (by kernel_rfl) ?_
 rw [HX]
 (repeat' (first | with_reducible refine And.intro ?_ ?_ | with_reducible refine and_imp.2 ?_ | intro))
 all_goals try (first | (first | with_reducible rfl | with_reducible assumption | omega | (refine ag ?_ ?_ <;> omega)) | exact rfl | exact (wk (by with_reducible assumption)) | exact (ji (by with_reducible assumption) (by with_reducible assumption) _).1 | exact (ji (by with_reducible assumption) (by with_reducible assumption) _).2 | exact (by rw [fu (eZ _),List.take_of_length_le (by omega)]))
 all_goals try (refine ⟨0,?_⟩; (repeat' (first | with_reducible refine And.intro ?_ ?_ | with_reducible refine and_imp.2 ?_ | intro)))
 all_goals try (first | (first | with_reducible rfl | with_reducible assumption | omega | (refine ag ?_ ?_ <;> omega)) | exact rfl | exact (wk (by with_reducible assumption)) | exact (ji (by with_reducible assumption) (by with_reducible assumption) _).1 | exact (ji (by with_reducible assumption) (by with_reducible assumption) _).2 | exact (by rw [fu (eZ _),List.take_of_length_le (by omega)]))
 all_goals try (refine ⟨‹Nat› + 1,?_⟩; (repeat' (first | with_reducible refine And.intro ?_ ?_ | with_reducible refine and_imp.2 ?_ | intro)))
 all_goals (first | (first | with_reducible rfl | with_reducible assumption | omega | (refine ag ?_ ?_ <;> omega)) | exact rfl | exact (wk (by with_reducible assumption)) | exact (ji (by with_reducible assumption) (by with_reducible assumption) _).1 | exact (ji (by with_reducible assumption) (by with_reducible assumption) _).2 | exact (by rw [fu (eZ _),List.take_of_length_le (by omega)]))
theorem AN (l:List Snap) (id:Int) (r0:List Snap):ma aF qD (um l id) Tryz.f184 [.c (.fz (.nm .snap) (l)),.c (.int (id))] [] [.c (.own 0)] [.row 73 (.nm .snap) (r0)]=((fun (q0:Nat)=>l.length*(64:Nat)<=(140737488355328:Nat)->I64 id->∃ (s0:Nat),(fun (q1:Int)=>(id=id/\l=l/\(↑l.length:Int)=q1/\(0:Int)=(↑s0:Int)/\bn id (List.take s0 l)=[])/\s0<=q0/\∀ (s:Nat),(fun (q3:List Snap)=>(fun (q2:Int)=>s<=q0->((↑s:Int)<q1->(0:Int)<=(↑s:Int)/\(↑s:Int)<(↑l.length:Int)/\∀ (x:Snap),(fun (q4:Prop)=>l[s]? = some x->I64 x.id->I64 x.set->q4->x.tag.b.length<=(140737488355328:Nat)->(¬x.id=id->q4->(q3.length+[x].length)*(64:Nat)<=(140737488355328:Nat)/\I64 q2/\∃ (s':Nat),(id=id/\l=l/\q1=q1/\q2=(↑s':Int)/\q3++[x]=bn id (List.take s' l))/\s' <= q0/\q0 - s' < q0 - s)/\(x.id=id->I64 q2/\∃ (s':Nat),(id=id/\l=l/\q1=q1/\q2=(↑s':Int)/\q3=bn id (List.take s' l))/\s' <= q0/\q0 - s' < q0 - s)) (x.chunks.length*(8:Nat)<=(140737488355328:Nat)))/\(q1<=(↑s:Int)->q3=r0)) ((↑s:Int)+(1:Int))) (bn id (List.take s l))) (↑q0:Int)) l.length):=by kernel_rfl
theorem zw (l:List Snap) (id:Int):Sat Tryz.prog (ao aF) 184 [.c (.fz (.nm .snap) (l)),.c (.int (id))] [] ⟨[],[.c (.own 0)],some ([.row 73 (.nm .snap) ((bn id l))]),true⟩:=by
 refine di iG (um l id) Tryz.func184 (by decide) (by kernel_rfl) ?_
 rw [AN]
 (repeat' (first | with_reducible refine And.intro ?_ ?_ | with_reducible refine and_imp.2 ?_ | intro))
 all_goals try (first | (first | with_reducible rfl | with_reducible assumption | omega | (refine ag ?_ ?_ <;> omega)) | exact rfl | exact (Fz (by with_reducible assumption) (by with_reducible assumption) (by with_reducible assumption)) | exact (Dn (by with_reducible assumption) (by with_reducible assumption)) | exact (wT (by omega)) | exact (xw (by omega) (by omega)))
 all_goals try (refine ⟨0,?_⟩; (repeat' (first | with_reducible refine And.intro ?_ ?_ | with_reducible refine and_imp.2 ?_ | intro)))
 all_goals try (first | (first | with_reducible rfl | with_reducible assumption | omega | (refine ag ?_ ?_ <;> omega)) | exact rfl | exact (Fz (by with_reducible assumption) (by with_reducible assumption) (by with_reducible assumption)) | exact (Dn (by with_reducible assumption) (by with_reducible assumption)) | exact (wT (by omega)) | exact (xw (by omega) (by omega)))
 all_goals try (refine ⟨‹Nat› + 1,?_⟩; (repeat' (first | with_reducible refine And.intro ?_ ?_ | with_reducible refine and_imp.2 ?_ | intro)))
 all_goals (first | (first | with_reducible rfl | with_reducible assumption | omega | (refine ag ?_ ?_ <;> omega)) | exact rfl | exact (Fz (by with_reducible assumption) (by with_reducible assumption) (by with_reducible assumption)) | exact (Dn (by with_reducible assumption) (by with_reducible assumption)) | exact (wT (by omega)) | exact (xw (by omega) (by omega)))
def yV:cH:=(bB 184 (bw (ai (kC (cL (.nm .snap))) (ai (kC cI) aH)) aJ fun (l,id,_) (_)=>⟨[],[.c (.own 0)],some ([.row 73 (.nm .snap) ((bn id l))]),true⟩) (bB 181 (bw (ai (kC (cL (.nm .snap))) aH) aJ fun (l,_) (_)=>⟨[nch l<=1048576],[.agg (jC .int ((bZ l)) 0 65)],none,false⟩) (bB 191 (bw (ai (kC cI) (ai (kC (bX 0 0)) (ai (kC (bX 1 0)) aH))) (ay (rW 201 .int 65) (ay (rW 201 .int 65) aJ)) fun (n,_,_,_) (xs,ys,_)=>⟨[0<=n/\n<65],[.c (.bool (.atom ((dW xs ys n))))],none,false⟩) (bB 190 (bw (ai (kC cI) (ai (kC (bX 0 0)) aH)) (ay (rW 201 .int 65) aJ) fun (n,_,_) (xs,_)=>⟨[0<=n/\n<65],[.c (.bool (.atom ((dZ xs n))))],none,false⟩) qD))))
theorem pO:aS Tryz.prog (ao aF) yV:=(aq (au (ab (al bp) (ab (al av) aj)) ak fun (l,id,_) (_) _=>zw l id ) (aq (au (ab (al bp) aj) ak fun (l,_) (_) hp=>Ja l (dx hp)) (aq (au (ab (al av) (ab (al aL) (ab (al aL) aj))) (ah gW (ah gW ak)) fun (n,_,_,_) (xs,ys,_) hp=>ED n xs ys (dx hp)) (aq (au (ab (al av) (ab (al aL) aj)) (ah gW ak) fun (n,_,_) (xs,_) hp=>IA n xs (dx hp)) iG))))
end Go.Proofs.YtladifkbefehdaaGreat
namespace Go.Proofs.YtladifkbefehdaaGreat
open Go.RowKit
def uw (xs:List Int):List (Nat × LI):=[(3,{ σ:=Nat,F:=fun k=>([(0,one (.fn 190 [] [(0,0)])),(3,one (.own 1)),(4,one (.int (k+1)))],[.arr 201 .int 65 ((xs)),.row 3 .int ((hY (dZ xs) k))]),J:=fun k=>k<=64,μ:=fun k=>64 - k })]
def vC (xs:List Int) (ys:List Int):List (Nat × LI):=[(3,{ σ:=Nat,F:=fun k=>([(0,one (.fn 191 [] [(0,0),(1,0)])),(3,one (.own 2)),(4,one (.int (k+1)))],[.arr 201 .int 65 ((xs)),.arr 201 .int 65 ((ys)),.row 3 .int ((hY (dW xs ys) k))]),J:=fun k=>k<=64,μ:=fun k=>64 - k })]
theorem zY (xs:List Int) (r0:List Int):cA aF yV (uw xs) Tryz.f189 [.c (.fn 190 [] [(0,0)])] [.arr 201 .int 65 (xs)] [.c (.fz .int (r0))]=((fun (q1:Nat)=>(fun (q0:Int)=>∃ (s0:Nat),(q0=(↑s0:Int)+q0/\xs=xs/\hY (dZ xs) s0=[])/\s0<=q1/\∀ (s:Nat),(fun (q3:List Int)=>(fun (q2:Int)=>s<=q1->(q2<=(64:Int)->((0:Int)<=q2/\q2<(65:Int))/\(dZ xs q2=true->(q3.length+[q2].length)*(8:Nat)<=(140737488355328:Nat)/\I64 (q2+q0)/\∃ (s':Nat),(q2+q0=(↑s':Int)+q0/\xs=xs/\q3++[q2]=hY (dZ xs) s')/\s' <= q1/\q1 - s' < q1 - s)/\(dZ xs q2=false->I64 (q2+q0)/\∃ (s':Nat),(q2+q0=(↑s':Int)+q0/\xs=xs/\q3=hY (dZ xs) s')/\s' <= q1/\q1 - s' < q1 - s))/\((64:Int)<q2->q3=r0)) ((↑s:Int)+q0)) (hY (dZ xs) s)) (1:Int)) (64:Nat)):=by kernel_rfl
theorem zj (xs:List Int):Sat Tryz.prog (ao aF) 189 [.c (.fn 190 [] [(0,0)])] [.arr 201 .int 65 (xs)] ⟨[],[.c (.fz .int ((hY (dZ xs) 64)))],none,false⟩:=by
 refine aM pO (uw xs) Tryz.func189 (by decide) (by kernel_rfl) ?_
 rw [zY]
 (repeat' (first | with_reducible refine And.intro ?_ ?_ | with_reducible refine and_imp.2 ?_ | intro))
 all_goals try (first | (first | with_reducible rfl | with_reducible assumption | omega | (refine ag ?_ ?_ <;> omega)) | exact rfl | exact (zH (by with_reducible assumption)) | exact (zo (by with_reducible assumption)) | exact (Ak (by omega) (by omega)) | exact (mi (by omega)) | exact (And.intro (by omega) (by omega)))
 all_goals try (refine ⟨0,?_⟩; (repeat' (first | with_reducible refine And.intro ?_ ?_ | with_reducible refine and_imp.2 ?_ | intro)))
 all_goals try (first | (first | with_reducible rfl | with_reducible assumption | omega | (refine ag ?_ ?_ <;> omega)) | exact rfl | exact (zH (by with_reducible assumption)) | exact (zo (by with_reducible assumption)) | exact (Ak (by omega) (by omega)) | exact (mi (by omega)) | exact (And.intro (by omega) (by omega)))
 all_goals try (refine ⟨‹Nat› + 1,?_⟩; (repeat' (first | with_reducible refine And.intro ?_ ?_ | with_reducible refine and_imp.2 ?_ | intro)))
 all_goals (first | (first | with_reducible rfl | with_reducible assumption | omega | (refine ag ?_ ?_ <;> omega)) | exact rfl | exact (zH (by with_reducible assumption)) | exact (zo (by with_reducible assumption)) | exact (Ak (by omega) (by omega)) | exact (mi (by omega)) | exact (And.intro (by omega) (by omega)))
theorem AL (xs:List Int) (ys:List Int) (r0:List Int):cA aF yV (vC xs ys) Tryz.f189 [.c (.fn 191 [] [(0,0),(1,0)])] [.arr 201 .int 65 (xs),.arr 201 .int 65 (ys)] [.c (.fz .int (r0))]=((fun (q1:Nat)=>(fun (q0:Int)=>∃ (s0:Nat),(q0=(↑s0:Int)+q0/\xs=xs/\ys=ys/\hY (dW xs ys) s0=[])/\s0<=q1/\∀ (s:Nat),(fun (q3:List Int)=>(fun (q2:Int)=>s<=q1->(q2<=(64:Int)->((0:Int)<=q2/\q2<(65:Int))/\(dW xs ys q2=true->(q3.length+[q2].length)*(8:Nat)<=(140737488355328:Nat)/\I64 (q2+q0)/\∃ (s':Nat),(q2+q0=(↑s':Int)+q0/\xs=xs/\ys=ys/\q3++[q2]=hY (dW xs ys) s')/\s' <= q1/\q1 - s' < q1 - s)/\(dW xs ys q2=false->I64 (q2+q0)/\∃ (s':Nat),(q2+q0=(↑s':Int)+q0/\xs=xs/\ys=ys/\q3=hY (dW xs ys) s')/\s' <= q1/\q1 - s' < q1 - s))/\((64:Int)<q2->q3=r0)) ((↑s:Int)+q0)) (hY (dW xs ys) s)) (1:Int)) (64:Nat)):=by kernel_rfl
theorem AM (xs:List Int) (ys:List Int):Sat Tryz.prog (ao aF) 189 [.c (.fn 191 [] [(0,0),(1,0)])] [.arr 201 .int 65 (xs),.arr 201 .int 65 (ys)] ⟨[],[.c (.fz .int ((hY (dW xs ys) 64)))],none,false⟩:=by
 refine aM pO (vC xs ys) Tryz.func189 (by decide) (by kernel_rfl) ?_
 rw [AL]
 (repeat' (first | with_reducible refine And.intro ?_ ?_ | with_reducible refine and_imp.2 ?_ | intro))
 all_goals try (first | (first | with_reducible rfl | with_reducible assumption | omega | (refine ag ?_ ?_ <;> omega)) | exact rfl | exact (zH (by with_reducible assumption)) | exact (zo (by with_reducible assumption)) | exact (Ak (by omega) (by omega)) | exact (mi (by omega)) | exact (And.intro (by omega) (by omega)))
 all_goals try (refine ⟨0,?_⟩; (repeat' (first | with_reducible refine And.intro ?_ ?_ | with_reducible refine and_imp.2 ?_ | intro)))
 all_goals try (first | (first | with_reducible rfl | with_reducible assumption | omega | (refine ag ?_ ?_ <;> omega)) | exact rfl | exact (zH (by with_reducible assumption)) | exact (zo (by with_reducible assumption)) | exact (Ak (by omega) (by omega)) | exact (mi (by omega)) | exact (And.intro (by omega) (by omega)))
 all_goals try (refine ⟨‹Nat› + 1,?_⟩; (repeat' (first | with_reducible refine And.intro ?_ ?_ | with_reducible refine and_imp.2 ?_ | intro)))
 all_goals (first | (first | with_reducible rfl | with_reducible assumption | omega | (refine ag ?_ ?_ <;> omega)) | exact rfl | exact (zH (by with_reducible assumption)) | exact (zo (by with_reducible assumption)) | exact (Ak (by omega) (by omega)) | exact (mi (by omega)) | exact (And.intro (by omega) (by omega)))
def yI:cH:=(bB 189 (bw (ai (kC (pQ 191 [] [(0,0),(1,0)])) aH) (ay (rW 201 .int 65) (ay (rW 201 .int 65) aJ)) fun (_,_) (xs,ys,_)=>⟨[],[.c (.fz .int ((hY (dW xs ys) 64)))],none,false⟩) (bB 189 (bw (ai (kC (pQ 190 [] [(0,0)])) aH) (ay (rW 201 .int 65) aJ) fun (_,_) (xs,_)=>⟨[],[.c (.fz .int ((hY (dZ xs) 64)))],none,false⟩) yV))
theorem pn:aS Tryz.prog (ao aF) yI:=(aq (au (ab (al dh) aj) (ah gW (ah gW ak)) fun (_,_) (xs,ys,_) _=>AM xs ys ) (aq (au (ab (al dh) aj) (ah gW ak) fun (_,_) (xs,_) _=>zj xs ) pO))
end Go.Proofs.YtladifkbefehdaaGreat
namespace Go.Proofs.YtladifkbefehdaaGreat
open Go.RowKit
theorem LW (xs:List Int) (r0:List Int):cA aF yI [] Tryz.f180 [.agg (jC .int (xs) 0 65)] [] [.c (.fz .int (r0))]=((fun (q1:List Int)=>(fun (q0:den Sh.int)=>I64 (xs.getD (0:Nat) q0)->I64 (xs.getD (1:Nat) q0)->I64 (xs.getD (2:Nat) q0)->I64 (xs.getD (3:Nat) q0)->I64 (xs.getD (4:Nat) q0)->I64 (xs.getD (5:Nat) q0)->I64 (xs.getD (6:Nat) q0)->I64 (xs.getD (7:Nat) q0)->I64 (xs.getD (8:Nat) q0)->I64 (xs.getD (9:Nat) q0)->I64 (xs.getD (10:Nat) q0)->I64 (xs.getD (11:Nat) q0)->I64 (xs.getD (12:Nat) q0)->I64 (xs.getD (13:Nat) q0)->I64 (xs.getD (14:Nat) q0)->I64 (xs.getD (15:Nat) q0)->I64 (xs.getD (16:Nat) q0)->I64 (xs.getD (17:Nat) q0)->I64 (xs.getD (18:Nat) q0)->I64 (xs.getD (19:Nat) q0)->I64 (xs.getD (20:Nat) q0)->I64 (xs.getD (21:Nat) q0)->I64 (xs.getD (22:Nat) q0)->I64 (xs.getD (23:Nat) q0)->I64 (xs.getD (24:Nat) q0)->I64 (xs.getD (25:Nat) q0)->I64 (xs.getD (26:Nat) q0)->I64 (xs.getD (27:Nat) q0)->I64 (xs.getD (28:Nat) q0)->I64 (xs.getD (29:Nat) q0)->I64 (xs.getD (30:Nat) q0)->I64 (xs.getD (31:Nat) q0)->I64 (xs.getD (32:Nat) q0)->I64 (xs.getD (33:Nat) q0)->I64 (xs.getD (34:Nat) q0)->I64 (xs.getD (35:Nat) q0)->I64 (xs.getD (36:Nat) q0)->I64 (xs.getD (37:Nat) q0)->I64 (xs.getD (38:Nat) q0)->I64 (xs.getD (39:Nat) q0)->I64 (xs.getD (40:Nat) q0)->I64 (xs.getD (41:Nat) q0)->I64 (xs.getD (42:Nat) q0)->I64 (xs.getD (43:Nat) q0)->I64 (xs.getD (44:Nat) q0)->I64 (xs.getD (45:Nat) q0)->I64 (xs.getD (46:Nat) q0)->I64 (xs.getD (47:Nat) q0)->I64 (xs.getD (48:Nat) q0)->I64 (xs.getD (49:Nat) q0)->I64 (xs.getD (50:Nat) q0)->I64 (xs.getD (51:Nat) q0)->I64 (xs.getD (52:Nat) q0)->I64 (xs.getD (53:Nat) q0)->I64 (xs.getD (54:Nat) q0)->I64 (xs.getD (55:Nat) q0)->I64 (xs.getD (56:Nat) q0)->I64 (xs.getD (57:Nat) q0)->I64 (xs.getD (58:Nat) q0)->I64 (xs.getD (59:Nat) q0)->I64 (xs.getD (60:Nat) q0)->I64 (xs.getD (61:Nat) q0)->I64 (xs.getD (62:Nat) q0)->I64 (xs.getD (63:Nat) q0)->I64 (xs.getD (64:Nat) q0)->q1.length*(8:Nat)<=(140737488355328:Nat)->q1=r0) (dflt Sh.int)) (hY (dZ (po Sh.int xs (0:Nat) (65:Nat))) (64:Nat))):=by kernel_rfl
theorem Og (xs:List Int) (h0:xs.length=65):Sat Tryz.prog (ao aF) 180 [.agg (jC .int (xs) 0 65)] [] ⟨[xs.length=65],[.c (.fz .int ((hY (dZ xs) 64)))],none,false⟩:=by
 refine aM pn [] Tryz.func180 (by decide) (by kernel_rfl) ?_
 rw [LW]
 (repeat' (first | with_reducible refine And.intro ?_ ?_ | with_reducible refine and_imp.2 ?_ | intro))
 all_goals (first | (first | with_reducible rfl | with_reducible assumption | omega | (refine ag ?_ ?_ <;> omega)) | exact (by rw [fu h0]) | exact (by rw [fu h0]; assumption))
theorem Ea (l:List Snap) (id:Int) (r0:List Int):cA aF yI [] Tryz.f183 [.c (.fz (.nm .snap) (l)),.c (.int (id))] [] [.c (.fz .int (r0))]=((fun (q3:Nat)=>(fun (q2:List Int)=>(fun (q1:den Sh.int)=>(fun (q0:List Int)=>l.length*(64:Nat)<=(140737488355328:Nat)->I64 id->nch l<=(1048576:Nat)/\(I64 (q2.getD q3 q1)->I64 (q2.getD (1:Nat) q1)->I64 (q2.getD (2:Nat) q1)->I64 (q2.getD (3:Nat) q1)->I64 (q2.getD (4:Nat) q1)->I64 (q2.getD (5:Nat) q1)->I64 (q2.getD (6:Nat) q1)->I64 (q2.getD (7:Nat) q1)->I64 (q2.getD (8:Nat) q1)->I64 (q2.getD (9:Nat) q1)->I64 (q2.getD (10:Nat) q1)->I64 (q2.getD (11:Nat) q1)->I64 (q2.getD (12:Nat) q1)->I64 (q2.getD (13:Nat) q1)->I64 (q2.getD (14:Nat) q1)->I64 (q2.getD (15:Nat) q1)->I64 (q2.getD (16:Nat) q1)->I64 (q2.getD (17:Nat) q1)->I64 (q2.getD (18:Nat) q1)->I64 (q2.getD (19:Nat) q1)->I64 (q2.getD (20:Nat) q1)->I64 (q2.getD (21:Nat) q1)->I64 (q2.getD (22:Nat) q1)->I64 (q2.getD (23:Nat) q1)->I64 (q2.getD (24:Nat) q1)->I64 (q2.getD (25:Nat) q1)->I64 (q2.getD (26:Nat) q1)->I64 (q2.getD (27:Nat) q1)->I64 (q2.getD (28:Nat) q1)->I64 (q2.getD (29:Nat) q1)->I64 (q2.getD (30:Nat) q1)->I64 (q2.getD (31:Nat) q1)->I64 (q2.getD (32:Nat) q1)->I64 (q2.getD (33:Nat) q1)->I64 (q2.getD (34:Nat) q1)->I64 (q2.getD (35:Nat) q1)->I64 (q2.getD (36:Nat) q1)->I64 (q2.getD (37:Nat) q1)->I64 (q2.getD (38:Nat) q1)->I64 (q2.getD (39:Nat) q1)->I64 (q2.getD (40:Nat) q1)->I64 (q2.getD (41:Nat) q1)->I64 (q2.getD (42:Nat) q1)->I64 (q2.getD (43:Nat) q1)->I64 (q2.getD (44:Nat) q1)->I64 (q2.getD (45:Nat) q1)->I64 (q2.getD (46:Nat) q1)->I64 (q2.getD (47:Nat) q1)->I64 (q2.getD (48:Nat) q1)->I64 (q2.getD (49:Nat) q1)->I64 (q2.getD (50:Nat) q1)->I64 (q2.getD (51:Nat) q1)->I64 (q2.getD (52:Nat) q1)->I64 (q2.getD (53:Nat) q1)->I64 (q2.getD (54:Nat) q1)->I64 (q2.getD (55:Nat) q1)->I64 (q2.getD (56:Nat) q1)->I64 (q2.getD (57:Nat) q1)->I64 (q2.getD (58:Nat) q1)->I64 (q2.getD (59:Nat) q1)->I64 (q2.getD (60:Nat) q1)->I64 (q2.getD (61:Nat) q1)->I64 (q2.getD (62:Nat) q1)->I64 (q2.getD (63:Nat) q1)->I64 (q2.getD (64:Nat) q1)->nch (bn id l)<=(1048576:Nat)/\(I64 (q0.getD q3 q1)->I64 (q0.getD (1:Nat) q1)->I64 (q0.getD (2:Nat) q1)->I64 (q0.getD (3:Nat) q1)->I64 (q0.getD (4:Nat) q1)->I64 (q0.getD (5:Nat) q1)->I64 (q0.getD (6:Nat) q1)->I64 (q0.getD (7:Nat) q1)->I64 (q0.getD (8:Nat) q1)->I64 (q0.getD (9:Nat) q1)->I64 (q0.getD (10:Nat) q1)->I64 (q0.getD (11:Nat) q1)->I64 (q0.getD (12:Nat) q1)->I64 (q0.getD (13:Nat) q1)->I64 (q0.getD (14:Nat) q1)->I64 (q0.getD (15:Nat) q1)->I64 (q0.getD (16:Nat) q1)->I64 (q0.getD (17:Nat) q1)->I64 (q0.getD (18:Nat) q1)->I64 (q0.getD (19:Nat) q1)->I64 (q0.getD (20:Nat) q1)->I64 (q0.getD (21:Nat) q1)->I64 (q0.getD (22:Nat) q1)->I64 (q0.getD (23:Nat) q1)->I64 (q0.getD (24:Nat) q1)->I64 (q0.getD (25:Nat) q1)->I64 (q0.getD (26:Nat) q1)->I64 (q0.getD (27:Nat) q1)->I64 (q0.getD (28:Nat) q1)->I64 (q0.getD (29:Nat) q1)->I64 (q0.getD (30:Nat) q1)->I64 (q0.getD (31:Nat) q1)->I64 (q0.getD (32:Nat) q1)->I64 (q0.getD (33:Nat) q1)->I64 (q0.getD (34:Nat) q1)->I64 (q0.getD (35:Nat) q1)->I64 (q0.getD (36:Nat) q1)->I64 (q0.getD (37:Nat) q1)->I64 (q0.getD (38:Nat) q1)->I64 (q0.getD (39:Nat) q1)->I64 (q0.getD (40:Nat) q1)->I64 (q0.getD (41:Nat) q1)->I64 (q0.getD (42:Nat) q1)->I64 (q0.getD (43:Nat) q1)->I64 (q0.getD (44:Nat) q1)->I64 (q0.getD (45:Nat) q1)->I64 (q0.getD (46:Nat) q1)->I64 (q0.getD (47:Nat) q1)->I64 (q0.getD (48:Nat) q1)->I64 (q0.getD (49:Nat) q1)->I64 (q0.getD (50:Nat) q1)->I64 (q0.getD (51:Nat) q1)->I64 (q0.getD (52:Nat) q1)->I64 (q0.getD (53:Nat) q1)->I64 (q0.getD (54:Nat) q1)->I64 (q0.getD (55:Nat) q1)->I64 (q0.getD (56:Nat) q1)->I64 (q0.getD (57:Nat) q1)->I64 (q0.getD (58:Nat) q1)->I64 (q0.getD (59:Nat) q1)->I64 (q0.getD (60:Nat) q1)->I64 (q0.getD (61:Nat) q1)->I64 (q0.getD (62:Nat) q1)->I64 (q0.getD (63:Nat) q1)->I64 (q0.getD (64:Nat) q1)->(hY (dW (po Sh.int q2 q3 (65:Nat)) (po Sh.int q0 q3 (65:Nat))) (64:Nat)).length*(8:Nat)<=(140737488355328:Nat)->hY (dW (po Sh.int q2 q3 (65:Nat)) (po Sh.int q0 q3 (65:Nat))) (64:Nat)=r0))) (bZ (bn id l))) (dflt Sh.int)) (bZ l)) (0:Nat)):=by kernel_rfl
theorem EC (l:List Snap) (id:Int) (h0:nch l<=1048576):Sat Tryz.prog (ao aF) 183 [.c (.fz (.nm .snap) (l)),.c (.int (id))] [] ⟨[nch l<=1048576],[.c (.fz .int ((jK l id)))],none,false⟩:=by
 refine aM pn [] Tryz.func183 (by decide) (by kernel_rfl) ?_
 rw [Ea]
 (repeat' (first | with_reducible refine And.intro ?_ ?_ | with_reducible refine and_imp.2 ?_ | intro))
 all_goals (first | (first | with_reducible rfl | with_reducible assumption | omega | (refine ag ?_ ?_ <;> omega)) | exact (OC (by assumption)) | exact (by rw [fu (eZ _),fu (eZ _)]; exact Dg _ _ _ rfl))
def yE:cH:=(bB 183 (bw (ai (kC (cL (.nm .snap))) (ai (kC cI) aH)) aJ fun (l,id,_) (_)=>⟨[nch l<=1048576],[.c (.fz .int ((jK l id)))],none,false⟩) (bB 180 (bw (ai (kA .int 65) aH) aJ fun (xs,_) (_)=>⟨[xs.length=65],[.c (.fz .int ((hY (dZ xs) 64)))],none,false⟩) yI))
theorem nX:aS Tryz.prog (ao aF) yE:=(aq (au (ab (al bp) (ab (al av) aj)) ak fun (l,id,_) (_) hp=>EC l id (dx hp)) (aq (au (ab PD aj) ak fun (xs,_) (_) hp=>Og xs (dx hp)) pn))
end Go.Proofs.YtladifkbefehdaaGreat
