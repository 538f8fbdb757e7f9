/- What leads to the law, part 4. Conditions: each lemma's own. -/
import Derived.Test.YtladifkbefehdaaGreatKMPM3
set_option linter.unusedVariables false
set_option linter.unusedSimpArgs false
namespace Go.Proofs.YtladifkbefehdaaGreat
open Go.RowKit
theorem pz (z:Array Value) (n:Nat):(Builtin.zeroCells z n).toList.length=n*z.size:=by rw [Array.length_toList,size_zeroCells]
theorem bz {w:World} {g:Nat} {o:Obj} (h:w.heap[g]? = some o):g<w.heap.size:=(Array.getElem?_eq_some_iff.1 h).1
theorem db:(Tryz.prog.info? 82).map (·.size)=some 4:=by kernel_rfl
theorem Je:(Tryz.prog.info? 82).map (fun i=>(i.zero,i.size,i.bytes))=some (some (.agg #[.int .i64 0,.int .i64 0,.int .i64 0,.int .i64 0]),4,32):=by kernel_rfl
set_option maxRecDepth 100000 in
set_option maxHeartbeats 1000000 in
theorem vi {w:World} {n c vc:Nat} {A:Option Addr} {B:Option Addr} {φ:Value->World->Prop} (happ:∀ (F:Fr) (x y:Operand) (ty:TypeId),ev F x=some (.slice A n c)->ev F y=some (.slice B 1 vc)->∃ v2 w2,ba Tryz.prog 95 F w (.call { callee:=.builtin .append,args:=#[x,y],argTypes:=#[39,39] }) ty v2 w2/\φ v2 w2) :
  iI Tryz.prog 64 [.slice A n c,.int .i64 (n:Int),.slice B 1 vc].toArray w φ:=by
 refine iI.enter Tryz.func64 rfl rfl rfl rfl ?_
 refine WC.seq ?_
 refine WC.region ?_
 refine WO.v (R.assign rfl) rfl ?_
 refine WO.nil ?_
 refine WX.next ?_
 refine WC.seq ?_
 refine WC.region ?_
 refine WO.v (R.move rfl) rfl ?_
 refine WO.v (R.move rfl) rfl ?_
 refine WO.v (R.cX rfl rfl Tryz.underlying39 db rfl (by omega)) rfl ?_
 refine WO.nil ?_
 refine WX.next ?_
 refine WC.seq ?_
 refine WC.region ?_
 refine WO.v (R.move rfl) rfl ?_
 refine WO.v (R.len rfl Tryz.underlying39) rfl ?_
 refine WO.v (R.assign rfl) rfl ?_
 refine WO.nil ?_
 refine WX.next ?_
 refine WC.seq ?_
 refine WC.seq ?_
 refine WC.region ?_
 refine WO.v (R.move rfl) rfl ?_
 refine WO.v (R.eql rfl rfl) rfl ?_
 refine WO.nil ?_
 refine WX.next ?_
 refine WC.cond rfl (fun q=>absurd (of_decide_eq_true q) (by omega)) (fun _=>?_)
 refine WC.skip ?_
 refine WX.next ?_
 refine WC.seq ?_
 refine WC.region ?_
 refine WO.v (R.move rfl) rfl ?_
 refine WO.v (R.len rfl Tryz.underlying39) rfl ?_
 refine WO.v (R.assign rfl) rfl ?_
 refine WO.nil ?_
 refine WX.next ?_
 refine WC.seq ?_
 refine WC.seq ?_
 refine WC.region ?_
 refine WO.v (R.move rfl) rfl ?_
 refine WO.v (R.move rfl) rfl ?_
 refine WO.v (R.eql rfl rfl) rfl ?_
 refine WO.nil ?_
 refine WX.next ?_
 refine WC.cond rfl (fun _=>?_) (fun q=>absurd rfl (of_decide_eq_false q))
 refine WC.seq ?_
 refine WC.region ?_
 refine WO.v (R.move rfl) rfl ?_
 refine WO.v (R.move rfl) rfl ?_
 refine WO.ve (happ _ _ _ _ rfl rfl) rfl fun v2 w2 hv2=>?_
 refine WO.v (R.assign rfl) rfl ?_
 refine WO.nil ?_
 refine WX.next ?_
 refine WC.ret ?_
 refine WX.jO ?_
 refine WX.xw rfl rfl ?_
 exact hv2
set_option maxRecDepth 100000 in
set_option maxHeartbeats 1000000 in
theorem tp {w W1:World} {g b n i c vc G:Nat} {ad:Addr} {cur vs ds:List Value} (hi:i<n) (hnc:n<=c) (hc:c<n+1) (hcm:c<=maxLen) (hG:n+1<=G) (hGm:G<=maxLen)
  (happ:∀ (F:Fr) (x y:Operand) (ty:TypeId),ev F x=some (.slice (some ⟨g,0*4,none⟩) i c)->ev F y=some (.int .i64 ((n+1 - i:Nat):Int))->ba Tryz.prog 95 F w (.call { callee:=.builtin .append,args:=#[x,y],argTypes:=#[39,3] }) ty (.slice (some ⟨b,0,none⟩) (n+1) G) W1)
  (hrow:W1.heap[b]? = some (.cells cur.toArray 82 (0,0))) (hcur:(n+1)*4<=cur.length) (hv:CellsAt W1 ad vs) (hvl:vs.length=4) (hd:CellsAt W1 ⟨g,i*4,none⟩ ds) (hgb:g≠b) (hgl:g<W1.heap.size) (hdl:ds.length=(n - i)*4)
  (h1v:∀ u ∈ vs,u.oneCell' = true) (h1d:∀ u ∈ ds,u.oneCell' = true) :
  iI Tryz.prog 64 [.slice (some ⟨g,0,none⟩) n c,.int .i64 (i:Int),.slice (some ad) 1 vc].toArray w fun v w'=>v = .slice (some ⟨b,0,none⟩) (n+1) G/\∃ w1,Kp [] (W1.setRow b (cur.take (i*4)++vs++cur.drop (i*4+vs.length)).toArray) w1/\w' = w1.setRow b ((cur.take (i*4)++vs++cur.drop (i*4+vs.length)).take ((i+1)*4)++ds++(cur.take (i*4)++vs++cur.drop (i*4+vs.length)).drop ((i+1)*4+ds.length)).toArray:=by
 have hGm:G<=9223372036854775807:=hGm
 have hcm:c<=9223372036854775807:=hcm
 have hn1:vs.length=Nat.min 1 (n+1 - i)*4:=by rw [show Nat.min 1 (n+1 - i)=1 from Nat.min_eq_left (by omega),Nat.one_mul]; exact hvl
 have hn2:ds.length=Nat.min (n - i) (n+1 - (i+1))*4:=by rw [show Nat.min (n - i) (n+1 - (i+1))=n - i from Nat.min_eq_left (by omega)]; exact hdl
 refine iI.enter Tryz.func64 rfl rfl rfl rfl ?_
 refine WC.seq ?_
 refine WC.region ?_
 refine WO.v (R.assign rfl) rfl ?_
 refine WO.nil ?_
 refine WX.next ?_
 refine WC.seq ?_
 refine WC.region ?_
 refine WO.v (R.move rfl) rfl ?_
 refine WO.v (R.move rfl) rfl ?_
 refine WO.v (R.cX rfl rfl Tryz.underlying39 db rfl (by omega)) rfl ?_
 refine WO.nil ?_
 refine WX.next ?_
 refine WC.seq ?_
 refine WC.region ?_
 refine WO.v (R.move rfl) rfl ?_
 refine WO.v (R.len rfl Tryz.underlying39) rfl ?_
 refine WO.v (R.assign rfl) rfl ?_
 refine WO.nil ?_
 refine WX.next ?_
 refine WC.seq ?_
 refine WC.seq ?_
 refine WC.region ?_
 refine WO.v (R.move rfl) rfl ?_
 refine WO.v (R.eql rfl rfl) rfl ?_
 refine WO.nil ?_
 refine WX.next ?_
 refine WC.cond rfl (fun q=>absurd (of_decide_eq_true q) (by omega)) (fun _=>?_)
 refine WC.skip ?_
 refine WX.next ?_
 refine WC.seq ?_
 refine WC.region ?_
 refine WO.v (R.move rfl) rfl ?_
 refine WO.v (R.len rfl Tryz.underlying39) rfl ?_
 refine WO.v (R.assign rfl) rfl ?_
 refine WO.nil ?_
 refine WX.next ?_
 refine WC.seq ?_
 refine WC.seq ?_
 refine WC.region ?_
 refine WO.v (R.move rfl) rfl ?_
 refine WO.v (R.move rfl) rfl ?_
 refine WO.v (R.eql rfl rfl) rfl ?_
 refine WO.nil ?_
 refine WX.next ?_
 refine WC.cond rfl (fun q=>absurd (of_decide_eq_true q) (by omega)) (fun _=>?_)
 refine WC.skip ?_
 refine WX.next ?_
 refine WC.seq ?_
 refine WC.seq ?_
 refine WC.region ?_
 refine WO.v (R.move rfl) rfl ?_
 refine WO.v (R.move rfl) rfl ?_
 refine WO.v (R.kQ rfl rfl (by omega)) rfl ?_
 refine WO.v (R.move rfl) rfl ?_
 refine WO.v (R.Kx rfl Tryz.underlying39) rfl ?_
 refine WO.v (R.gtr rfl rfl) rfl ?_
 refine WO.nil ?_
 refine WX.next ?_
 refine WC.cond rfl (fun _=>?_) (fun q=>absurd (by omega) (of_decide_eq_false q))
 refine WC.seq ?_
 refine WC.region ?_
 refine WO.v (R.move rfl) rfl ?_
 refine WO.v (R.move rfl) rfl ?_
 refine WO.v (R.mD rfl rfl Tryz.underlying39 db (eC (i:=0) (by omega)) (by omega)) rfl ?_
 refine WO.v (R.move rfl) rfl ?_
 refine WO.v (R.move rfl) rfl ?_
 refine WO.v (R.kQ rfl rfl (by omega)) rfl ?_
 refine WO.v (R.move rfl) rfl ?_
 refine WO.v (R.Xb rfl rfl (by omega) (by omega)) rfl ?_
 refine WO.v (happ _ _ _ _ rfl rfl) rfl ?_
 refine WO.v (R.assign rfl) rfl ?_
 refine WO.nil ?_
 refine WX.next ?_
 refine WC.seq ?_
 refine WC.region ?_
 refine WO.v (R.move rfl) rfl ?_
 refine WO.v (R.move rfl) rfl ?_
 refine WO.v (R.cX rfl rfl Tryz.underlying39 db (eC (by omega)) (by omega)) rfl ?_
 refine WO.v (R.move rfl) rfl ?_
 refine WO.v (R.nw rfl rfl Tryz.underlying39 db hrow hn1 hv (by omega) h1v) rfl ?_
 refine WO.nil ?_
 refine WX.next ?_
 refine WC.seq ?_
 refine WC.qB hL [.ex [] (.slice (some ⟨b,0,none⟩) (n+1) G),.ex [] (.int .i64 ((i:Nat):Int)),.ex [] (.int .i64 ((1:Nat):Int)),.ex [1,2] (.int .i64 ((i+1:Nat):Int)),.ex [0,3] (.slice (some ⟨b,(i+1)*4,none⟩) (n+1 - (i+1)) (G - (i+1))),.ex [] (.slice (some ⟨g,0,none⟩) n c),.ex [] (.int .i64 ((i:Nat):Int)),.ex [5,6] (.slice (some ⟨g,i*4,none⟩) (n - i) (c - i))] 8 (by kernel_rfl) ⟨fun _ _ _ h _=>h,fun _ _ _ h _=>h,fun _ _ _ h _=>h,fun _ _ _ h _=>h,fun _ _ _ h _=>h,fun _ _ _ h _=>h,fun _ _ _ h _=>h,fun _ _ _ h _=>h,trivial⟩ ⟨?_,?_,?_,?_,?_,?_,?_,?_,trivial⟩ ?_
 ·rintro vs wd kd ⟨-⟩
  refine WO.bX (fr':=[(9,.slice (some ⟨b,0,none⟩) (n+1) G)]) ⟨⟨_,rfl,rfl⟩,trivial⟩ ?_
  refine WO.v (R.move rfl) rfl ?_
  refine WO.nil ?_
  exact WX.aV rfl rfl (Kp.refl _)
 ·rintro vs wd kd ⟨-⟩
  refine WO.bX (fr':=[(1,.int .i64 ((i:Nat):Int))]) ⟨⟨_,rfl,rfl⟩,trivial⟩ ?_
  refine WO.v (R.move rfl) rfl ?_
  refine WO.nil ?_
  exact WX.aV rfl rfl (Kp.refl _)
 ·rintro vs wd kd ⟨-⟩
  refine WO.bX (fr':=[(7,.int .i64 ((1:Nat):Int))]) ⟨⟨_,rfl,rfl⟩,trivial⟩ ?_
  refine WO.v (R.move rfl) rfl ?_
  refine WO.nil ?_
  exact WX.aV rfl rfl (Kp.refl _)
 ·rintro vs wd kd ⟨e1,e2,-⟩
  refine WO.bX (fr':=[(47,.int .i64 ((i:Nat):Int)),(48,.int .i64 ((1:Nat):Int))]) ⟨⟨_,rfl,e1⟩,⟨_,rfl,e2⟩,trivial⟩ ?_
  refine WO.v (R.kQ rfl rfl (by omega)) rfl ?_
  refine WO.nil ?_
  exact WX.aV rfl rfl (Kp.refl _)
 ·rintro vs wd kd ⟨e0,e3,-⟩
  refine WO.bX (fr':=[(46,.slice (some ⟨b,0,none⟩) (n+1) G),(49,.int .i64 ((i+1:Nat):Int))]) ⟨⟨_,rfl,e0⟩,⟨_,rfl,e3⟩,trivial⟩ ?_
  refine WO.v (R.cX rfl rfl Tryz.underlying39 db (eC (by omega)) (by omega)) rfl ?_
  refine WO.nil ?_
  exact WX.aV rfl rfl (Kp.refl _)
 ·rintro vs wd kd ⟨-⟩
  refine WO.bX (fr':=[(0,.slice (some ⟨g,0,none⟩) n c)]) ⟨⟨_,rfl,rfl⟩,trivial⟩ ?_
  refine WO.v (R.move rfl) rfl ?_
  refine WO.nil ?_
  exact WX.aV rfl rfl (Kp.refl _)
 ·rintro vs wd kd ⟨-⟩
  refine WO.bX (fr':=[(1,.int .i64 ((i:Nat):Int))]) ⟨⟨_,rfl,rfl⟩,trivial⟩ ?_
  refine WO.v (R.move rfl) rfl ?_
  refine WO.nil ?_
  exact WX.aV rfl rfl (Kp.refl _)
 ·rintro vs wd kd ⟨e5,e6,-⟩
  refine WO.bX (fr':=[(51,.slice (some ⟨g,0,none⟩) n c),(52,.int .i64 ((i:Nat):Int))]) ⟨⟨_,rfl,e5⟩,⟨_,rfl,e6⟩,trivial⟩ ?_
  refine WO.v (R.cX rfl rfl Tryz.underlying39 db (eC (by omega)) (by omega)) rfl ?_
  refine WO.nil ?_
  exact WX.aV rfl rfl (Kp.refl _)
 rintro vsx w1 k1 ⟨-,-,-,-,e4,-,-,e7,-⟩
 replace k1:Kp [] (W1.setRow b (cur.take (i*4)++vs++cur.drop (i*4+vs.length)).toArray) w1:=k1
 refine WO.bX (fr':=[(50,.slice (some ⟨b,(i+1)*4,none⟩) (n+1 - (i+1)) (G - (i+1))),(53,.slice (some ⟨g,i*4,none⟩) (n - i) (c - i)),(9,.slice (some ⟨b,0,none⟩) (n+1) G)]) ⟨⟨_,rfl,e4⟩,⟨_,rfl,e7⟩,⟨_,rfl,rfl⟩,trivial⟩ ?_
 have hb2:w1.heap[b]? = some (.cells (List.toArray (cur.take (i*4)++vs++cur.drop (i*4+vs.length))) 82 (0,0)):=by rw [k1.block b (by simpa using bz hrow) (by simp)]; exact setRow_heap W1 b _ _ 82 _ hrow
 have hd2:CellsAt w1 ⟨g,i*4,none⟩ ds:=(hd.kp (Kp.setRow W1 b _) hgl (by simpa using hgb.symm)).kp k1 (by simpa using hgl) (by simp)
 refine WO.v (R.nw rfl rfl Tryz.underlying39 db hb2 hn2 hd2 (by simp only [List.length_append,List.length_take,List.length_drop]; omega) h1d) rfl ?_
 refine WO.nil ?_
 refine WX.next ?_
 refine WC.seq ?_
 refine WC.region ?_
 refine WO.v (R.move rfl) rfl ?_
 refine WO.v (R.assign rfl) rfl ?_
 refine WO.nil ?_
 refine WX.next ?_
 refine WC.ret ?_
 refine WX.jO ?_
 refine WX.xw rfl rfl ?_
 exact ⟨rfl,w1,k1,rfl⟩
set_option maxRecDepth 100000 in
set_option maxHeartbeats 1000000 in
theorem qq {w:World} {g n i c vc:Nat} {ad:Addr} {cur vs ds:List Value} {curA:Array Value} {tA:TypeId} {fA:Nat × Nat} (hi:i<n) (hc:n+1<=c) (hcm:c<=maxLen)
  (hrow:w.heap[g]? = some (.cells cur.toArray 82 (0,0))) (hcur:(n+1)*4<=cur.length) (hv:CellsAt w ad vs) (hvb:w.heap[ad.block]? = some (.cells curA tA fA)) (hvb0:curA.size≠0) (hne:ad.block≠g) (hvl:vs.length=4) (hd:CellsAt w ⟨g,i*4,none⟩ ds) (hdl:ds.length=(n - i)*4)
  (h1v:∀ u ∈ vs,u.oneCell' = true) (h1d:∀ u ∈ ds,u.oneCell' = true) :
  iI Tryz.prog 64 [.slice (some ⟨g,0,none⟩) n c,.int .i64 (i:Int),.slice (some ad) 1 vc].toArray w fun v w'=>v = .slice (some ⟨g,0,none⟩) (n+1) c/\∃ w1,Kp [] w w1/\w' = (w1.setRow g (cur.take ((i+1)*4)++ds++cur.drop ((i+1)*4+ds.length)).toArray).setRow g ((cur.take ((i+1)*4)++ds++cur.drop ((i+1)*4+ds.length)).take (i*4)++vs++(cur.take ((i+1)*4)++ds++cur.drop ((i+1)*4+ds.length)).drop (i*4+vs.length)).toArray:=by
 have hcm:c<=9223372036854775807:=hcm
 have hn1:vs.length=Nat.min 1 (n+1 - i)*4:=by rw [show Nat.min 1 (n+1 - i)=1 from Nat.min_eq_left (by omega),Nat.one_mul]; exact hvl
 have hn2:ds.length=Nat.min (n+1 - i) (n+1 - (i+1))*4:=by rw [show Nat.min (n+1 - i) (n+1 - (i+1))=n+1 - (i+1) from Nat.min_eq_right (by omega),hdl]; congr 1; omega
 refine iI.enter Tryz.func64 rfl rfl rfl rfl ?_
 refine WC.seq ?_
 refine WC.region ?_
 refine WO.v (R.assign rfl) rfl ?_
 refine WO.nil ?_
 refine WX.next ?_
 refine WC.seq ?_
 refine WC.region ?_
 refine WO.v (R.move rfl) rfl ?_
 refine WO.v (R.move rfl) rfl ?_
 refine WO.v (R.cX rfl rfl Tryz.underlying39 db rfl (by omega)) rfl ?_
 refine WO.nil ?_
 refine WX.next ?_
 refine WC.seq ?_
 refine WC.region ?_
 refine WO.v (R.move rfl) rfl ?_
 refine WO.v (R.len rfl Tryz.underlying39) rfl ?_
 refine WO.v (R.assign rfl) rfl ?_
 refine WO.nil ?_
 refine WX.next ?_
 refine WC.seq ?_
 refine WC.seq ?_
 refine WC.region ?_
 refine WO.v (R.move rfl) rfl ?_
 refine WO.v (R.eql rfl rfl) rfl ?_
 refine WO.nil ?_
 refine WX.next ?_
 refine WC.cond rfl (fun q=>absurd (of_decide_eq_true q) (by omega)) (fun _=>?_)
 refine WC.skip ?_
 refine WX.next ?_
 refine WC.seq ?_
 refine WC.region ?_
 refine WO.v (R.move rfl) rfl ?_
 refine WO.v (R.len rfl Tryz.underlying39) rfl ?_
 refine WO.v (R.assign rfl) rfl ?_
 refine WO.nil ?_
 refine WX.next ?_
 refine WC.seq ?_
 refine WC.seq ?_
 refine WC.region ?_
 refine WO.v (R.move rfl) rfl ?_
 refine WO.v (R.move rfl) rfl ?_
 refine WO.v (R.eql rfl rfl) rfl ?_
 refine WO.nil ?_
 refine WX.next ?_
 refine WC.cond rfl (fun q=>absurd (of_decide_eq_true q) (by omega)) (fun _=>?_)
 refine WC.skip ?_
 refine WX.next ?_
 refine WC.seq ?_
 refine WC.seq ?_
 refine WC.region ?_
 refine WO.v (R.move rfl) rfl ?_
 refine WO.v (R.move rfl) rfl ?_
 refine WO.v (R.kQ rfl rfl (by omega)) rfl ?_
 refine WO.v (R.move rfl) rfl ?_
 refine WO.v (R.Kx rfl Tryz.underlying39) rfl ?_
 refine WO.v (R.gtr rfl rfl) rfl ?_
 refine WO.nil ?_
 refine WX.next ?_
 refine WC.cond rfl (fun q=>absurd (of_decide_eq_true q) (by omega)) (fun _=>?_)
 refine WC.skip ?_
 refine WX.next ?_
 refine WC.seq ?_
 refine WC.region ?_
 refine WO.v (R.move rfl) rfl ?_
 refine WO.v (R.move rfl) rfl ?_
 refine WO.v (R.move rfl) rfl ?_
 refine WO.v (R.kQ rfl rfl (by omega)) rfl ?_
 refine WO.v (R.mD rfl rfl Tryz.underlying39 db (eC (i:=0) (by omega)) (by omega)) rfl ?_
 refine WO.v (R.assign rfl) rfl ?_
 refine WO.nil ?_
 refine WX.next ?_
 refine WC.seq ?_
 refine WC.seq ?_
 refine WC.region ?_
 refine WO.v (R.move rfl) rfl ?_
 refine WO.v (R.move rfl) rfl ?_
 refine WO.v (R.move rfl) rfl ?_
 refine WO.v (R.move rfl) rfl ?_
 refine WO.v (R.kQ rfl rfl (by omega)) rfl ?_
 refine WO.v (R.cX rfl rfl Tryz.underlying39 db (eC (by omega)) (by omega)) rfl ?_
 refine WO.v (R.ovl (tS:=39) (tR:=4) Tryz.func101 rfl rfl (by kernel_rfl) (by kernel_rfl) Tryz.underlying39 db hne hvb hvb0 hrow rfl rfl) rfl ?_
 refine WO.v (R.not rfl) rfl ?_
 refine WO.nil ?_
 refine WX.next ?_
 refine WC.zX rfl ?_
 refine WC.seq ?_
 refine WC.qB hL [.ex [] (.slice (some ⟨g,0,none⟩) (n+1) c),.ex [] (.int .i64 ((i:Nat):Int)),.ex [] (.int .i64 ((1:Nat):Int)),.ex [1,2] (.int .i64 ((i+1:Nat):Int)),.ex [0,3] (.slice (some ⟨g,(i+1)*4,none⟩) (n+1 - (i+1)) (c - (i+1))),.ex [] (.slice (some ⟨g,0,none⟩) (n+1) c),.ex [] (.int .i64 ((i:Nat):Int)),.ex [5,6] (.slice (some ⟨g,i*4,none⟩) (n+1 - i) (c - i))] 8 (by kernel_rfl) ⟨fun _ _ _ h _=>h,fun _ _ _ h _=>h,fun _ _ _ h _=>h,fun _ _ _ h _=>h,fun _ _ _ h _=>h,fun _ _ _ h _=>h,fun _ _ _ h _=>h,fun _ _ _ h _=>h,trivial⟩ ⟨?_,?_,?_,?_,?_,?_,?_,?_,trivial⟩ ?_
 ·rintro vs wd kd ⟨-⟩
  refine WO.bX (fr':=[(0,.slice (some ⟨g,0,none⟩) (n+1) c)]) ⟨⟨_,rfl,rfl⟩,trivial⟩ ?_
  refine WO.v (R.move rfl) rfl ?_
  refine WO.nil ?_
  exact WX.aV rfl rfl (Kp.refl _)
 ·rintro vs wd kd ⟨-⟩
  refine WO.bX (fr':=[(1,.int .i64 ((i:Nat):Int))]) ⟨⟨_,rfl,rfl⟩,trivial⟩ ?_
  refine WO.v (R.move rfl) rfl ?_
  refine WO.nil ?_
  exact WX.aV rfl rfl (Kp.refl _)
 ·rintro vs wd kd ⟨-⟩
  refine WO.bX (fr':=[(7,.int .i64 ((1:Nat):Int))]) ⟨⟨_,rfl,rfl⟩,trivial⟩ ?_
  refine WO.v (R.move rfl) rfl ?_
  refine WO.nil ?_
  exact WX.aV rfl rfl (Kp.refl _)
 ·rintro vs wd kd ⟨e1,e2,-⟩
  refine WO.bX (fr':=[(70,.int .i64 ((i:Nat):Int)),(71,.int .i64 ((1:Nat):Int))]) ⟨⟨_,rfl,e1⟩,⟨_,rfl,e2⟩,trivial⟩ ?_
  refine WO.v (R.kQ rfl rfl (by omega)) rfl ?_
  refine WO.nil ?_
  exact WX.aV rfl rfl (Kp.refl _)
 ·rintro vs wd kd ⟨e0,e3,-⟩
  refine WO.bX (fr':=[(69,.slice (some ⟨g,0,none⟩) (n+1) c),(72,.int .i64 ((i+1:Nat):Int))]) ⟨⟨_,rfl,e0⟩,⟨_,rfl,e3⟩,trivial⟩ ?_
  refine WO.v (R.cX rfl rfl Tryz.underlying39 db (eC (by omega)) (by omega)) rfl ?_
  refine WO.nil ?_
  exact WX.aV rfl rfl (Kp.refl _)
 ·rintro vs wd kd ⟨-⟩
  refine WO.bX (fr':=[(0,.slice (some ⟨g,0,none⟩) (n+1) c)]) ⟨⟨_,rfl,rfl⟩,trivial⟩ ?_
  refine WO.v (R.move rfl) rfl ?_
  refine WO.nil ?_
  exact WX.aV rfl rfl (Kp.refl _)
 ·rintro vs wd kd ⟨-⟩
  refine WO.bX (fr':=[(1,.int .i64 ((i:Nat):Int))]) ⟨⟨_,rfl,rfl⟩,trivial⟩ ?_
  refine WO.v (R.move rfl) rfl ?_
  refine WO.nil ?_
  exact WX.aV rfl rfl (Kp.refl _)
 ·rintro vs wd kd ⟨e5,e6,-⟩
  refine WO.bX (fr':=[(74,.slice (some ⟨g,0,none⟩) (n+1) c),(75,.int .i64 ((i:Nat):Int))]) ⟨⟨_,rfl,e5⟩,⟨_,rfl,e6⟩,trivial⟩ ?_
  refine WO.v (R.cX rfl rfl Tryz.underlying39 db (eC (by omega)) (by omega)) rfl ?_
  refine WO.nil ?_
  exact WX.aV rfl rfl (Kp.refl _)
 rintro vsx w1 k1 ⟨-,-,-,-,e4,-,-,e7,-⟩
 replace k1:Kp [] w w1:=k1
 refine WO.bX (fr':=[(73,.slice (some ⟨g,(i+1)*4,none⟩) (n+1 - (i+1)) (c - (i+1))),(76,.slice (some ⟨g,i*4,none⟩) (n+1 - i) (c - i)),(0,.slice (some ⟨g,0,none⟩) (n+1) c),(1,.int .i64 ((i:Nat):Int)),(2,.slice (some ad) 1 vc)]) ⟨⟨_,rfl,e4⟩,⟨_,rfl,e7⟩,⟨_,rfl,rfl⟩,⟨_,rfl,rfl⟩,⟨_,rfl,rfl⟩,trivial⟩ ?_
 have hg1:w1.heap[g]? = some (.cells (List.toArray cur) 82 (0,0)):=by rw [k1.block g (bz hrow) (by simp)]; exact hrow
 refine WO.v (R.nw rfl rfl Tryz.underlying39 db hg1 hn2 (hd.kp k1 (bz hrow) (by simp)) (by omega) h1d) rfl ?_
 refine WO.nil ?_
 refine WX.next ?_
 have hg2:(w1.setRow g (cur.take ((i+1)*4)++ds++cur.drop ((i+1)*4+ds.length)).toArray).heap[g]? = some (.cells (List.toArray (cur.take ((i+1)*4)++ds++cur.drop ((i+1)*4+ds.length))) 82 (0,0)):=setRow_heap w1 g _ _ 82 _ hg1
 have hv2:CellsAt (w1.setRow g (cur.take ((i+1)*4)++ds++cur.drop ((i+1)*4+ds.length)).toArray) ad vs:=(hv.kp k1 (bz hvb) (by simp)).kp (Kp.setRow w1 g _) (Nat.lt_of_lt_of_le (bz hvb) k1.size) (by simpa using fun h=>hne h.symm)
 refine WC.seq ?_
 refine WC.region ?_
 refine WO.v (R.move rfl) rfl ?_
 refine WO.v (R.move rfl) rfl ?_
 refine WO.v (R.cX rfl rfl Tryz.underlying39 db (eC (by omega)) (by omega)) rfl ?_
 refine WO.v (R.move rfl) rfl ?_
 refine WO.v (R.nw rfl rfl Tryz.underlying39 db hg2 hn1 hv2 (by simp only [List.length_append,List.length_take,List.length_drop]; omega) h1v) rfl ?_
 refine WO.nil ?_
 refine WX.next ?_
 refine WC.seq ?_
 refine WC.region ?_
 refine WO.v (R.move rfl) rfl ?_
 refine WO.v (R.assign rfl) rfl ?_
 refine WO.nil ?_
 refine WX.next ?_
 refine WC.ret ?_
 refine WX.jO ?_
 refine WX.xw rfl rfl ?_
 exact ⟨rfl,w1,k1,rfl⟩
theorem wg {G:Gl} {ρ:List RE} {H:AH} {w:World} (hs:G.shp=al tyT) (hR:Rep G ρ H w) {l m:List (den (.nm .sess))} (hH:getO H 0 = .row 82 (.nm .sess) l) (hl:l.length<1048576) {i:Nat} (hi:i<=l.length) {v0:Value} (h0:Rd (cx G ρ w) ρ (.own 0) v0)
  {ad:Addr} {k:Nat} {cys:List Value} {bAV:AV} (hm:m.length=1) (hb:Rd (cx G ρ w) ρ bAV (.slice (some ad) 1 k)) (hbv:(bAV.vw H).gw (.nm .sess)=some m) (hv:CellsAt w ad cys) (hvl:cys.length=4) (h1v:∀ u ∈ cys,u.oneCell' = true) (hp:Pds (cx G ρ w) (m.flatMap (cellsOf (.nm .sess))) cys)
  (hne:∀ g c n z,ρ[0]? = some (.row g c n z)->ad.block≠g) {curA:Array Value} {tA:TypeId} {fA:Nat × Nat} (hvb:w.heap[ad.block]? = some (.cells curA tA fA)) (hvb0:curA.size≠0) :
  iI Tryz.prog 64 [v0,.int .i64 (i:Int),.slice (some ad) 1 k].toArray w fun v w'=>∃ ρ',Stp (fq 0) ρ w ρ' w' /\ Rep G ρ' ((fW (AV.kill 0) H).set 0 (.row 82 (.nm .sess) (l.take i++m++l.drop i))) w' /\ Rd (cx G ρ' w') ρ' (.own 0) v:=by
 have hT:bO Tryz.prog G.shp tyT:=hs ▸ dx
 obtain ⟨hshp,hlen⟩:=dT hR hH
 have hl64:l.length<=9223372036854775807:=by omega
 have hin:((l.length:Nat):Int)<=9223372036854775807:=by omega
 by_cases hie:i=l.length
 ·subst hie
  have hc:∃ A c,v0 = .slice A l.length c:=by
   rcases h0 with ⟨g,cap,len,z,h1,rfl⟩ | ⟨h1,a,rfl⟩
   ·rcases bW hR hH with ⟨h2,_⟩ | ⟨g',cap',cells,sp,h2,_⟩
    ·rw [h1] at h2; cases h2
    ·rw [h1] at h2; cases h2; exact ⟨_,_,rfl⟩
   ·rcases bW hR hH with ⟨_,h2⟩ | ⟨g',cap',cells,sp,h2,_⟩
    ·subst h2; exact ⟨_,_,rfl⟩
    ·rw [h1] at h2; cases h2
  obtain ⟨A,c,rfl⟩:=hc
  refine vi fun F x y ty hx hy=>?_
  have happ:hP tyT (fq 0) ([]:AFr) H 39 (.own 0) bAV=some ⟨one (.own 0),[],(fW (AV.kill 0) H).set 0 (.row 82 (.nm .sess) (l++m)),[(l.length+m.length)*(Sh.nm NT.sess).bytes<=140737488355328],[]⟩:=by
   unfold hP
   rw [show bU tyT 39=some ⟨.sl 82 (some (.nm .sess)),1,[.em true]⟩ from by kernel_rfl]
   simp only [hbv,hH]
   rfl
  obtain ⟨v,w',h1,ρ',h2,h3,_,h5,_⟩:=h_ (P:=Tryz.prog) (n:=95) (F:=[]) (ty:=ty) (fr:=[]) (x:=.const (.slice A l.length c)) (y:=.const (.slice (some ad) 1 k)) hT hR .nil happ (by
   intro p hp
   rw [List.mem_singleton] at hp; subst hp
   show (l.length+m.length)*32<=_
   omega) h0 hb rfl rfl
  refine ⟨v,w',R.yC h1 hx hy,ρ',h2,?_,h5⟩
  rw [List.take_length,List.drop_length,List.append_nil]
  exact h3
 ·have hlt:i<l.length:=by omega
  rcases bW hR hH with ⟨_,h2⟩ | ⟨g,cap,cells,sp,hρ,hg,hpd,hsz,hcap,hmax⟩
  ·subst h2; simp at hlt
  obtain ⟨hnb,hil,hiH⟩:=mQ hR hH
  have hv0:v0 = .slice (some ⟨g,0,none⟩) l.length cap:=by
   rcases h0 with ⟨g',cap',len,z,h1,rfl⟩ | ⟨h1,a,rfl⟩
   ·rw [hρ] at h1; cases h1; rfl
   ·rw [hρ] at h1; cases h1
  subst hv0
  have hz:(Sh.nm NT.sess).size=4:=rfl
  have hby:(Sh.nm NT.sess).bytes=32:=rfl
  have hcl:cells.length=l.length*4:=by rw [<- hpd.length,cz,hz]
  rw [hz,List.length_append] at hsz
  have hone:∀ u ∈ cells.drop (i*4),u.oneCell' = true:=fun u hu=>hpd.Ep u (List.mem_of_mem_drop hu)
  have hd:CellsAt w ⟨g,i*4,none⟩ (cells.drop (i*4)):=by
   have:=(cQ hg).shift (i*4)
   rwa [add_lit,Nat.zero_add] at this
  have hdl:(cells.drop (i*4)).length=(l.length - i)*4:=by rw [List.length_drop,hcl]; omega
  have hgl:=bz hg
  have hzl:(l.take i++m++l.drop i).length=l.length+1:=by
   rw [List.length_append,List.length_append,List.length_take,List.length_drop,hm]; omega
  have hnew:∀ {c:Cx},(cx G ρ w).le c->Pds c ((l.take i++m++l.drop i).flatMap (cellsOf (.nm .sess))) (cells.take (i*4)++cys++cells.drop (i*4)):=fun {c} hle=>by
   rw [List.flatMap_append,List.flatMap_append]
   exact (((cr hpd i).append hp).append (cF hpd i)).carry hle
  have hnl:(cells.take (i*4)++cys++cells.drop (i*4)).length=(l.length+1)*4:=by
   rw [List.length_append,List.length_append,List.length_take,List.length_drop,hcl,hvl]; omega
  have hbig:(l.take i++m++l.drop i).length*(Sh.nm NT.sess).bytes<=140737488355328:=by rw [hzl,hby]; omega
  -- what is shown of any way
  have fin:∀ (S:List Nat) (g2 cap2:Nat) (sp2:List Value) (w':World),Kp S w w' -> (∀ b ∈ S,b=g)->(g2=g\/w.heap.size<=g2)->w'.heap[g2]? = some (.cells (List.toArray (cells.take (i*4)++cys++cells.drop (i*4)++sp2)) 82 (0,0))->(l.length+1)*4+sp2.length=cap2*4->l.length+1<=cap2->cap2<=maxLen ->
    ∃ ρ',Stp (fq 0) ρ w ρ' w' /\ Rep G ρ' ((fW (AV.kill 0) H).set 0 (.row 82 (.nm .sess) (l.take i++m++l.drop i))) w' /\ Rd (cx G ρ' w') ρ' (.own 0) (.slice (some ⟨g2,0,none⟩) (l.length+1) cap2):=by
   intro S g2 cap2 sp2 w' hk hS hg2 hh hlen2 hle2 hmax2
   obtain ⟨k1,k2,_⟩:=lK (ro:=fq 0) (s':=.nm .sess) (e':=82) (zs:=l.take i++m++l.drop i) hR hH ⟨rfl,rfl⟩ hk (fun b hb=>⟨_,hρ,by rw [hS b hb]; rfl⟩) (r':=.row g2 cap2 (l.take i++m++l.drop i).length (Sh.nm NT.sess).size) (fun b hb=>by
    cases hb
    rcases hg2 with rfl | hg2
    ·exact .inl ⟨_,hρ,rfl⟩
    ·exact .inr ⟨hg2,bz hh⟩) (fun hle=>⟨hshp,hbig,.inr ⟨g2,cap2,_,sp2,rfl,hh,hnew hle,by rw [List.length_append,hnl,hz]; exact hlen2,by rw [hzl]; exact hle2,hmax2⟩⟩)
   exact ⟨_,k1,k2,.inl ⟨g2,cap2,_,_,List.getElem?_set_self hil,by rw [hzl]⟩⟩
  have eo:(i+1)*4=i*4+4:=by omega
  by_cases hroom:l.length+1<=cap
  ·refine (qq hlt hroom hmax hg (by rw [List.length_append]; omega) hv hvb hvb0 (hne _ _ _ _ hρ) hvl hd hdl h1v hone).mono fun v w' ⟨e1,w1,k1,e2⟩=>?_
   subst e1; subst e2
   rw [eo,Nm (by omega) hvl]
   have hk:Kp [g] w ((w1.setRow g ((cells++sp).take (i*4+4)++cells.drop (i*4)++(cells++sp).drop (i*4+4+(cells.drop (i*4)).length)).toArray).setRow g (cells.take (i*4)++cys++cells.drop (i*4)++sp.drop 4).toArray):=((k1.sub (by simp)).step (Kp.setRow w1 g _) (by simp)).step (Kp.setRow _ g _) (by simp)
   have hg1:w1.heap[g]? = some (.cells (List.toArray (cells++sp)) 82 (0,0)):=by rw [k1.block g hgl (by simp)]; exact hg
   exact fin [g] g cap (sp.drop 4) _ hk (by simp) (.inl rfl) (setRow_heap _ g _ _ 82 _ (setRow_heap w1 g _ _ 82 _ hg1)) (by rw [List.length_drop]; omega) hroom hmax
  ·obtain ⟨ti,hi0,hz0,hz1,hz2⟩:=info_parts Je
   have eik:i+(l.length+1 - i)=l.length+1:=by omega
   have hge:=grownCap_ge w (l.length+1) cap 82
   have hgm:=grownCap_le_maxLen w (l.length+1) cap 82 (by simp [maxLen]; omega)
   have hold:(Builtin.firstCells ti.size i (.slice (some ⟨g,0*4,none⟩) i cap)).run Tryz.prog w.drew = .ok (cells.take (i*4)).toArray w.drew:=by
    have h:=run_loadCells_list (P:=Tryz.prog) w.drew ⟨g,0*4,none⟩ (cells.take (i*4)) (by rw [Nat.zero_mul]; exact (cQ hg).take _)
    rw [List.length_take,Nat.min_eq_left (by omega)] at h
    rw [hz1]; exact h
   have happ:∀ (F:Fr) (x y:Operand) (ty:TypeId),ev F x=some (.slice (some ⟨g,0*4,none⟩) i cap)->ev F y=some (.int .i64 ((l.length+1 - i:Nat):Int))->ba Tryz.prog 95 F w (.call { callee:=.builtin .append,args:=#[x,y],argTypes:=#[39,3] }) ty (.slice (some ⟨w.heap.size,0,none⟩) (l.length+1) (grownCap w (l.length+1) cap 82)) (w.drew.alloc (.cells (List.toArray (cells.take (i*4)++((Builtin.zeroCells (Value.agg #[.int .i64 0,.int .i64 0,.int .i64 0,.int .i64 0]).cells (l.length+1 - i)).toList++(Builtin.zeroCells (Value.agg #[.int .i64 0,.int .i64 0,.int .i64 0,.int .i64 0]).cells (grownCap w (l.length+1) cap 82 - (l.length+1))).toList))) 82)):=fun F x y ty hx hy=>by
    have h:=R.Ux (P:=Tryz.prog) (n:=95) (ty:=ty) hx hy Tryz.underlying39 Tryz.underlying3 hi0 hz0 hold (by omega) (by rw [hz1]; decide) (by omega) (by omega) (by rw [hz2]; omega) (by rw [hz2,eik]; exact growslice_fits (by omega) (by omega))
    rw [eik] at h
    have e:∀ (a:List Value) (b c:Array Value),a.toArray++b++c=(a++(b.toList++c.toList)).toArray:=fun a b c=>by apply Array.ext'; simp
    rw [e] at h
    exact h
   have hcurl:(cells.take (i*4)++((Builtin.zeroCells (Value.agg #[.int .i64 0,.int .i64 0,.int .i64 0,.int .i64 0]).cells (l.length+1 - i)).toList++(Builtin.zeroCells (Value.agg #[.int .i64 0,.int .i64 0,.int .i64 0,.int .i64 0]).cells (grownCap w (l.length+1) cap 82 - (l.length+1))).toList)).length=grownCap w (l.length+1) cap 82*4:=by
    rw [List.length_append,List.length_append,List.length_take,pz,pz]
    show min _ _+((l.length+1 - i)*4+(grownCap w (l.length+1) cap 82 - (l.length+1))*4)=_
    omega
   have htk:(cells.take (i*4)++((Builtin.zeroCells (Value.agg #[.int .i64 0,.int .i64 0,.int .i64 0,.int .i64 0]).cells (l.length+1 - i)).toList++(Builtin.zeroCells (Value.agg #[.int .i64 0,.int .i64 0,.int .i64 0,.int .i64 0]).cells (grownCap w (l.length+1) cap 82 - (l.length+1))).toList)).take (i*4)=cells.take (i*4):=List.take_left' (by rw [List.length_take]; omega)
   generalize grownCap w (l.length+1) cap 82=GC at *
   generalize cells.take (i*4)++((Builtin.zeroCells (Value.agg #[.int .i64 0,.int .i64 0,.int .i64 0,.int .i64 0]).cells (l.length+1 - i)).toList++(Builtin.zeroCells (Value.agg #[.int .i64 0,.int .i64 0,.int .i64 0,.int .i64 0]).cells (GC - (l.length+1))).toList)=cur at *
   have hK1:Kp [] w (w.drew.alloc (.cells (List.toArray cur) 82)):=((Kp.refl w).drew).step (Kp.alloc w.drew _) (by simp)
   have hrow:(w.drew.alloc (.cells (List.toArray cur) 82)).heap[w.heap.size]? = some (.cells (List.toArray cur) 82 (0,0)):=heap_alloc_new w.drew _
   generalize w.drew.alloc (.cells (List.toArray cur) 82)=W1 at *
   refine (tp hlt hcap (by omega) hmax hge hgm happ hrow (by omega) (hv.kp hK1 (bz hvb) (by simp)) hvl (hd.kp hK1 hgl (by simp)) (by omega) (Nat.lt_of_lt_of_le hgl hK1.size) hdl h1v hone).mono fun v w' ⟨e1,w1,k1,e2⟩=>?_
   subst e1; subst e2
   rw [eo,NG (cells:=cells) (by omega) hvl htk]
   have hs1:∀ b ∈ [w.heap.size],b ∈ ([]:List Nat)\/w.heap.size<=b:=fun b hb=>.inr (by rw [List.mem_singleton] at hb; omega)
   have hk:Kp [] w (w1.setRow w.heap.size (cells.take (i*4)++cys++cells.drop (i*4)++cur.drop (i*4+4+(cells.drop (i*4)).length)).toArray):=((hK1.step (Kp.setRow W1 w.heap.size _) hs1).step k1 (by simp)).step (Kp.setRow w1 w.heap.size _) hs1
   have hg1:=(k1.block w.heap.size (by simpa using bz hrow) (by simp)).trans (setRow_heap W1 w.heap.size _ (cur.take (i*4)++cys++cur.drop (i*4+cys.length)).toArray 82 _ hrow)
   exact fin [] w.heap.size GC _ _ hk (by simp) (.inr (Nat.le_refl _)) (setRow_heap w1 w.heap.size _ _ 82 _ hg1) (by rw [List.length_drop]; omega) hge hgm
theorem rW (i:Int) (l m:List (den (.nm .sess))) (h:0<=i/\i<=(l.length:Int)) (hl:l.length<1048576) (hm:m.length=1):Sat Tryz.prog (al tyT) 64 [.c (.own 0),.c (.int i),.c (.own 1)] [.row 82 (.nm .sess) l,.row 82 (.nm .sess) m] ⟨[0<=i/\i<=(l.length:Int),l.length<1048576,m.length=1],[.c (.own 0)],some [.row 82 (.nm .sess) (l.take i.toNat++m++l.drop i.toNat),.row 82 (.nm .sess) m],false⟩:=by
 refine ⟨⟨_,Tryz.func64,by decide,rfl⟩,fun G ρ w vs hs hR hvs=>?_⟩
 obtain ⟨i,rfl⟩:=Int.eq_ofNat_of_zero_le h.1
 cases hvs with | cons h0 hvs=>
 cases hvs with | cons h1 hvs=>
 cases hvs with | cons h2 hvs=>
 cases hvs
 have h1:Pd (cx G ρ w) (.int (i:Int)) _:=h1
 cases h1
 have h0:Rd (cx G ρ w) ρ (.own 0) _:=h0
 have h2:Rd (cx G ρ w) ρ (.own 1) _:=h2
 have hH:getO [AO.row 82 (.nm .sess) l,.row 82 (.nm .sess) m] 0 = .row 82 (.nm .sess) l:=rfl
 have hbv:(AV.vw [AO.row 82 (.nm .sess) l,.row 82 (.nm .sess) m] (.own 1)).gw (.nm .sess)=some m:=by simp [AV.vw,AV.gw,getO]
 obtain ⟨A,k,cys,rfl,s1,s2,s3,s4⟩:=oz hR hbv h2
 rw [hm] at h2 s1 s3
 rw [hm]
 obtain ⟨ad,rfl,s5⟩:∃ ad,A=some ad/\CellsAt w ad cys:=s3.resolve_left (by decide)
 have hz:(Sh.nm NT.sess).size=4:=rfl
 rw [hz] at s1
 obtain ⟨u,hu⟩:∃ u,cys[0]? = some u:=⟨_,List.getElem?_eq_getElem (by omega)⟩
 obtain ⟨cur,t,f,hc,hc0⟩:=ry (s5 0 u hu)
 have hne:∀ g c n z,ρ[0]? = some (.row g c n z)->ad.block≠g:=fun g c n z hg e=>by
  rcases h2 with ⟨g',cap',len,z',h3,h4⟩ | ⟨h3,a,h4⟩
  ·cases h4
   have:=hR.inj 0 1 _ _ g hg h3 rfl (by rw [<- e]; rfl)
   omega
  ·cases h4
 rw [gL] at hc
 refine (wg hs hR hH hl (by omega) h0 hm h2 hbv s5 s1 s2 s4 hne hc hc0).mono fun v w' ⟨ρ',k1,k2,k3⟩=>?_
 exact ⟨[v],rfl,ρ',k2,k1.ext,k1.bx,.cons k3 .nil,fun hb=>by cases hb⟩
theorem dj:(Tryz.prog.info? 63).map (·.size)=some 2:=by kernel_rfl
theorem AE:(Tryz.prog.info? 63).map (fun i=>(i.zero,i.size,i.bytes))=some (some (.agg #[.int .i64 0,.int .i64 0]),2,16):=by kernel_rfl
set_option maxRecDepth 100000 in
set_option maxHeartbeats 1000000 in
theorem xM {w:World} {n c vc:Nat} {A:Option Addr} {B:Option Addr} {φ:Value->World->Prop} (happ:∀ (F:Fr) (x y:Operand) (ty:TypeId),ev F x=some (.slice A n c)->ev F y=some (.slice B 1 vc)->∃ v2 w2,ba Tryz.prog 95 F w (.call { callee:=.builtin .append,args:=#[x,y],argTypes:=#[40,40] }) ty v2 w2/\φ v2 w2) :
  iI Tryz.prog 176 [.slice A n c,.int .i64 (n:Int),.slice B 1 vc].toArray w φ:=by
 refine iI.enter Tryz.func176 rfl rfl rfl rfl ?_
 refine WC.seq ?_
 refine WC.region ?_
 refine WO.v (R.assign rfl) rfl ?_
 refine WO.nil ?_
 refine WX.next ?_
 refine WC.seq ?_
 refine WC.region ?_
 refine WO.v (R.move rfl) rfl ?_
 refine WO.v (R.move rfl) rfl ?_
 refine WO.v (R.cX rfl rfl Tryz.underlying40 dj rfl (by omega)) rfl ?_
 refine WO.nil ?_
 refine WX.next ?_
 refine WC.seq ?_
 refine WC.region ?_
 refine WO.v (R.move rfl) rfl ?_
 refine WO.v (R.len rfl Tryz.underlying40) rfl ?_
 refine WO.v (R.assign rfl) rfl ?_
 refine WO.nil ?_
 refine WX.next ?_
 refine WC.seq ?_
 refine WC.seq ?_
 refine WC.region ?_
 refine WO.v (R.move rfl) rfl ?_
 refine WO.v (R.eql rfl rfl) rfl ?_
 refine WO.nil ?_
 refine WX.next ?_
 refine WC.cond rfl (fun q=>absurd (of_decide_eq_true q) (by omega)) (fun _=>?_)
 refine WC.skip ?_
 refine WX.next ?_
 refine WC.seq ?_
 refine WC.region ?_
 refine WO.v (R.move rfl) rfl ?_
 refine WO.v (R.len rfl Tryz.underlying40) rfl ?_
 refine WO.v (R.assign rfl) rfl ?_
 refine WO.nil ?_
 refine WX.next ?_
 refine WC.seq ?_
 refine WC.seq ?_
 refine WC.region ?_
 refine WO.v (R.move rfl) rfl ?_
 refine WO.v (R.move rfl) rfl ?_
 refine WO.v (R.eql rfl rfl) rfl ?_
 refine WO.nil ?_
 refine WX.next ?_
 refine WC.cond rfl (fun _=>?_) (fun q=>absurd rfl (of_decide_eq_false q))
 refine WC.seq ?_
 refine WC.region ?_
 refine WO.v (R.move rfl) rfl ?_
 refine WO.v (R.move rfl) rfl ?_
 refine WO.ve (happ _ _ _ _ rfl rfl) rfl fun v2 w2 hv2=>?_
 refine WO.v (R.assign rfl) rfl ?_
 refine WO.nil ?_
 refine WX.next ?_
 refine WC.ret ?_
 refine WX.jO ?_
 refine WX.xw rfl rfl ?_
 exact hv2
set_option maxRecDepth 100000 in
set_option maxHeartbeats 1000000 in
theorem vO {w W1:World} {g b n i c vc G:Nat} {ad:Addr} {cur vs ds:List Value} (hi:i<n) (hnc:n<=c) (hc:c<n+1) (hcm:c<=maxLen) (hG:n+1<=G) (hGm:G<=maxLen)
  (happ:∀ (F:Fr) (x y:Operand) (ty:TypeId),ev F x=some (.slice (some ⟨g,0*2,none⟩) i c)->ev F y=some (.int .i64 ((n+1 - i:Nat):Int))->ba Tryz.prog 95 F w (.call { callee:=.builtin .append,args:=#[x,y],argTypes:=#[40,3] }) ty (.slice (some ⟨b,0,none⟩) (n+1) G) W1)
  (hrow:W1.heap[b]? = some (.cells cur.toArray 63 (0,0))) (hcur:(n+1)*2<=cur.length) (hv:CellsAt W1 ad vs) (hvl:vs.length=2) (hd:CellsAt W1 ⟨g,i*2,none⟩ ds) (hgb:g≠b) (hgl:g<W1.heap.size) (hdl:ds.length=(n - i)*2)
  (h1v:∀ u ∈ vs,u.oneCell' = true) (h1d:∀ u ∈ ds,u.oneCell' = true) :
  iI Tryz.prog 176 [.slice (some ⟨g,0,none⟩) n c,.int .i64 (i:Int),.slice (some ad) 1 vc].toArray w fun v w'=>v = .slice (some ⟨b,0,none⟩) (n+1) G/\∃ w1,Kp [] (W1.setRow b (cur.take (i*2)++vs++cur.drop (i*2+vs.length)).toArray) w1/\w' = w1.setRow b ((cur.take (i*2)++vs++cur.drop (i*2+vs.length)).take ((i+1)*2)++ds++(cur.take (i*2)++vs++cur.drop (i*2+vs.length)).drop ((i+1)*2+ds.length)).toArray:=by
 have hGm:G<=9223372036854775807:=hGm
 have hcm:c<=9223372036854775807:=hcm
 have hn1:vs.length=Nat.min 1 (n+1 - i)*2:=by rw [show Nat.min 1 (n+1 - i)=1 from Nat.min_eq_left (by omega),Nat.one_mul]; exact hvl
 have hn2:ds.length=Nat.min (n - i) (n+1 - (i+1))*2:=by rw [show Nat.min (n - i) (n+1 - (i+1))=n - i from Nat.min_eq_left (by omega)]; exact hdl
 refine iI.enter Tryz.func176 rfl rfl rfl rfl ?_
 refine WC.seq ?_
 refine WC.region ?_
 refine WO.v (R.assign rfl) rfl ?_
 refine WO.nil ?_
 refine WX.next ?_
 refine WC.seq ?_
 refine WC.region ?_
 refine WO.v (R.move rfl) rfl ?_
 refine WO.v (R.move rfl) rfl ?_
 refine WO.v (R.cX rfl rfl Tryz.underlying40 dj rfl (by omega)) rfl ?_
 refine WO.nil ?_
 refine WX.next ?_
 refine WC.seq ?_
 refine WC.region ?_
 refine WO.v (R.move rfl) rfl ?_
 refine WO.v (R.len rfl Tryz.underlying40) rfl ?_
 refine WO.v (R.assign rfl) rfl ?_
 refine WO.nil ?_
 refine WX.next ?_
 refine WC.seq ?_
 refine WC.seq ?_
 refine WC.region ?_
 refine WO.v (R.move rfl) rfl ?_
 refine WO.v (R.eql rfl rfl) rfl ?_
 refine WO.nil ?_
 refine WX.next ?_
 refine WC.cond rfl (fun q=>absurd (of_decide_eq_true q) (by omega)) (fun _=>?_)
 refine WC.skip ?_
 refine WX.next ?_
 refine WC.seq ?_
 refine WC.region ?_
 refine WO.v (R.move rfl) rfl ?_
 refine WO.v (R.len rfl Tryz.underlying40) rfl ?_
 refine WO.v (R.assign rfl) rfl ?_
 refine WO.nil ?_
 refine WX.next ?_
 refine WC.seq ?_
 refine WC.seq ?_
 refine WC.region ?_
 refine WO.v (R.move rfl) rfl ?_
 refine WO.v (R.move rfl) rfl ?_
 refine WO.v (R.eql rfl rfl) rfl ?_
 refine WO.nil ?_
 refine WX.next ?_
 refine WC.cond rfl (fun q=>absurd (of_decide_eq_true q) (by omega)) (fun _=>?_)
 refine WC.skip ?_
 refine WX.next ?_
 refine WC.seq ?_
 refine WC.seq ?_
 refine WC.region ?_
 refine WO.v (R.move rfl) rfl ?_
 refine WO.v (R.move rfl) rfl ?_
 refine WO.v (R.kQ rfl rfl (by omega)) rfl ?_
 refine WO.v (R.move rfl) rfl ?_
 refine WO.v (R.Kx rfl Tryz.underlying40) rfl ?_
 refine WO.v (R.gtr rfl rfl) rfl ?_
 refine WO.nil ?_
 refine WX.next ?_
 refine WC.cond rfl (fun _=>?_) (fun q=>absurd (by omega) (of_decide_eq_false q))
 refine WC.seq ?_
 refine WC.region ?_
 refine WO.v (R.move rfl) rfl ?_
 refine WO.v (R.move rfl) rfl ?_
 refine WO.v (R.mD rfl rfl Tryz.underlying40 dj (eC (i:=0) (by omega)) (by omega)) rfl ?_
 refine WO.v (R.move rfl) rfl ?_
 refine WO.v (R.move rfl) rfl ?_
 refine WO.v (R.kQ rfl rfl (by omega)) rfl ?_
 refine WO.v (R.move rfl) rfl ?_
 refine WO.v (R.Xb rfl rfl (by omega) (by omega)) rfl ?_
 refine WO.v (happ _ _ _ _ rfl rfl) rfl ?_
 refine WO.v (R.assign rfl) rfl ?_
 refine WO.nil ?_
 refine WX.next ?_
 refine WC.seq ?_
 refine WC.region ?_
 refine WO.v (R.move rfl) rfl ?_
 refine WO.v (R.move rfl) rfl ?_
 refine WO.v (R.cX rfl rfl Tryz.underlying40 dj (eC (by omega)) (by omega)) rfl ?_
 refine WO.v (R.move rfl) rfl ?_
 refine WO.v (R.nw rfl rfl Tryz.underlying40 dj hrow hn1 hv (by omega) h1v) rfl ?_
 refine WO.nil ?_
 refine WX.next ?_
 refine WC.seq ?_
 refine WC.qB hL [.ex [] (.slice (some ⟨b,0,none⟩) (n+1) G),.ex [] (.int .i64 ((i:Nat):Int)),.ex [] (.int .i64 ((1:Nat):Int)),.ex [1,2] (.int .i64 ((i+1:Nat):Int)),.ex [0,3] (.slice (some ⟨b,(i+1)*2,none⟩) (n+1 - (i+1)) (G - (i+1))),.ex [] (.slice (some ⟨g,0,none⟩) n c),.ex [] (.int .i64 ((i:Nat):Int)),.ex [5,6] (.slice (some ⟨g,i*2,none⟩) (n - i) (c - i))] 8 (by kernel_rfl) ⟨fun _ _ _ h _=>h,fun _ _ _ h _=>h,fun _ _ _ h _=>h,fun _ _ _ h _=>h,fun _ _ _ h _=>h,fun _ _ _ h _=>h,fun _ _ _ h _=>h,fun _ _ _ h _=>h,trivial⟩ ⟨?_,?_,?_,?_,?_,?_,?_,?_,trivial⟩ ?_
 ·rintro vs wd kd ⟨-⟩
  refine WO.bX (fr':=[(9,.slice (some ⟨b,0,none⟩) (n+1) G)]) ⟨⟨_,rfl,rfl⟩,trivial⟩ ?_
  refine WO.v (R.move rfl) rfl ?_
  refine WO.nil ?_
  exact WX.aV rfl rfl (Kp.refl _)
 ·rintro vs wd kd ⟨-⟩
  refine WO.bX (fr':=[(1,.int .i64 ((i:Nat):Int))]) ⟨⟨_,rfl,rfl⟩,trivial⟩ ?_
  refine WO.v (R.move rfl) rfl ?_
  refine WO.nil ?_
  exact WX.aV rfl rfl (Kp.refl _)
 ·rintro vs wd kd ⟨-⟩
  refine WO.bX (fr':=[(7,.int .i64 ((1:Nat):Int))]) ⟨⟨_,rfl,rfl⟩,trivial⟩ ?_
  refine WO.v (R.move rfl) rfl ?_
  refine WO.nil ?_
  exact WX.aV rfl rfl (Kp.refl _)
 ·rintro vs wd kd ⟨e1,e2,-⟩
  refine WO.bX (fr':=[(47,.int .i64 ((i:Nat):Int)),(48,.int .i64 ((1:Nat):Int))]) ⟨⟨_,rfl,e1⟩,⟨_,rfl,e2⟩,trivial⟩ ?_
  refine WO.v (R.kQ rfl rfl (by omega)) rfl ?_
  refine WO.nil ?_
  exact WX.aV rfl rfl (Kp.refl _)
 ·rintro vs wd kd ⟨e0,e3,-⟩
  refine WO.bX (fr':=[(46,.slice (some ⟨b,0,none⟩) (n+1) G),(49,.int .i64 ((i+1:Nat):Int))]) ⟨⟨_,rfl,e0⟩,⟨_,rfl,e3⟩,trivial⟩ ?_
  refine WO.v (R.cX rfl rfl Tryz.underlying40 dj (eC (by omega)) (by omega)) rfl ?_
  refine WO.nil ?_
  exact WX.aV rfl rfl (Kp.refl _)
 ·rintro vs wd kd ⟨-⟩
  refine WO.bX (fr':=[(0,.slice (some ⟨g,0,none⟩) n c)]) ⟨⟨_,rfl,rfl⟩,trivial⟩ ?_
  refine WO.v (R.move rfl) rfl ?_
  refine WO.nil ?_
  exact WX.aV rfl rfl (Kp.refl _)
 ·rintro vs wd kd ⟨-⟩
  refine WO.bX (fr':=[(1,.int .i64 ((i:Nat):Int))]) ⟨⟨_,rfl,rfl⟩,trivial⟩ ?_
  refine WO.v (R.move rfl) rfl ?_
  refine WO.nil ?_
  exact WX.aV rfl rfl (Kp.refl _)
 ·rintro vs wd kd ⟨e5,e6,-⟩
  refine WO.bX (fr':=[(51,.slice (some ⟨g,0,none⟩) n c),(52,.int .i64 ((i:Nat):Int))]) ⟨⟨_,rfl,e5⟩,⟨_,rfl,e6⟩,trivial⟩ ?_
  refine WO.v (R.cX rfl rfl Tryz.underlying40 dj (eC (by omega)) (by omega)) rfl ?_
  refine WO.nil ?_
  exact WX.aV rfl rfl (Kp.refl _)
 rintro vsx w1 k1 ⟨-,-,-,-,e4,-,-,e7,-⟩
 replace k1:Kp [] (W1.setRow b (cur.take (i*2)++vs++cur.drop (i*2+vs.length)).toArray) w1:=k1
 refine WO.bX (fr':=[(50,.slice (some ⟨b,(i+1)*2,none⟩) (n+1 - (i+1)) (G - (i+1))),(53,.slice (some ⟨g,i*2,none⟩) (n - i) (c - i)),(9,.slice (some ⟨b,0,none⟩) (n+1) G)]) ⟨⟨_,rfl,e4⟩,⟨_,rfl,e7⟩,⟨_,rfl,rfl⟩,trivial⟩ ?_
 have hb2:w1.heap[b]? = some (.cells (List.toArray (cur.take (i*2)++vs++cur.drop (i*2+vs.length))) 63 (0,0)):=by rw [k1.block b (by simpa using bz hrow) (by simp)]; exact setRow_heap W1 b _ _ 63 _ hrow
 have hd2:CellsAt w1 ⟨g,i*2,none⟩ ds:=(hd.kp (Kp.setRow W1 b _) hgl (by simpa using hgb.symm)).kp k1 (by simpa using hgl) (by simp)
 refine WO.v (R.nw rfl rfl Tryz.underlying40 dj hb2 hn2 hd2 (by simp only [List.length_append,List.length_take,List.length_drop]; omega) h1d) rfl ?_
 refine WO.nil ?_
 refine WX.next ?_
 refine WC.seq ?_
 refine WC.region ?_
 refine WO.v (R.move rfl) rfl ?_
 refine WO.v (R.assign rfl) rfl ?_
 refine WO.nil ?_
 refine WX.next ?_
 refine WC.ret ?_
 refine WX.jO ?_
 refine WX.xw rfl rfl ?_
 exact ⟨rfl,w1,k1,rfl⟩
set_option maxRecDepth 100000 in
set_option maxHeartbeats 1000000 in
theorem sf {w:World} {g n i c vc:Nat} {ad:Addr} {cur vs ds:List Value} {curA:Array Value} {tA:TypeId} {fA:Nat × Nat} (hi:i<n) (hc:n+1<=c) (hcm:c<=maxLen)
  (hrow:w.heap[g]? = some (.cells cur.toArray 63 (0,0))) (hcur:(n+1)*2<=cur.length) (hv:CellsAt w ad vs) (hvb:w.heap[ad.block]? = some (.cells curA tA fA)) (hvb0:curA.size≠0) (hne:ad.block≠g) (hvl:vs.length=2) (hd:CellsAt w ⟨g,i*2,none⟩ ds) (hdl:ds.length=(n - i)*2)
  (h1v:∀ u ∈ vs,u.oneCell' = true) (h1d:∀ u ∈ ds,u.oneCell' = true) :
  iI Tryz.prog 176 [.slice (some ⟨g,0,none⟩) n c,.int .i64 (i:Int),.slice (some ad) 1 vc].toArray w fun v w'=>v = .slice (some ⟨g,0,none⟩) (n+1) c/\∃ w1,Kp [] w w1/\w' = (w1.setRow g (cur.take ((i+1)*2)++ds++cur.drop ((i+1)*2+ds.length)).toArray).setRow g ((cur.take ((i+1)*2)++ds++cur.drop ((i+1)*2+ds.length)).take (i*2)++vs++(cur.take ((i+1)*2)++ds++cur.drop ((i+1)*2+ds.length)).drop (i*2+vs.length)).toArray:=by
 have hcm:c<=9223372036854775807:=hcm
 have hn1:vs.length=Nat.min 1 (n+1 - i)*2:=by rw [show Nat.min 1 (n+1 - i)=1 from Nat.min_eq_left (by omega),Nat.one_mul]; exact hvl
 have hn2:ds.length=Nat.min (n+1 - i) (n+1 - (i+1))*2:=by rw [show Nat.min (n+1 - i) (n+1 - (i+1))=n+1 - (i+1) from Nat.min_eq_right (by omega),hdl]; congr 1; omega
 refine iI.enter Tryz.func176 rfl rfl rfl rfl ?_
 refine WC.seq ?_
 refine WC.region ?_
 refine WO.v (R.assign rfl) rfl ?_
 refine WO.nil ?_
 refine WX.next ?_
 refine WC.seq ?_
 refine WC.region ?_
 refine WO.v (R.move rfl) rfl ?_
 refine WO.v (R.move rfl) rfl ?_
 refine WO.v (R.cX rfl rfl Tryz.underlying40 dj rfl (by omega)) rfl ?_
 refine WO.nil ?_
 refine WX.next ?_
 refine WC.seq ?_
 refine WC.region ?_
 refine WO.v (R.move rfl) rfl ?_
 refine WO.v (R.len rfl Tryz.underlying40) rfl ?_
 refine WO.v (R.assign rfl) rfl ?_
 refine WO.nil ?_
 refine WX.next ?_
 refine WC.seq ?_
 refine WC.seq ?_
 refine WC.region ?_
 refine WO.v (R.move rfl) rfl ?_
 refine WO.v (R.eql rfl rfl) rfl ?_
 refine WO.nil ?_
 refine WX.next ?_
 refine WC.cond rfl (fun q=>absurd (of_decide_eq_true q) (by omega)) (fun _=>?_)
 refine WC.skip ?_
 refine WX.next ?_
 refine WC.seq ?_
 refine WC.region ?_
 refine WO.v (R.move rfl) rfl ?_
 refine WO.v (R.len rfl Tryz.underlying40) rfl ?_
 refine WO.v (R.assign rfl) rfl ?_
 refine WO.nil ?_
 refine WX.next ?_
 refine WC.seq ?_
 refine WC.seq ?_
 refine WC.region ?_
 refine WO.v (R.move rfl) rfl ?_
 refine WO.v (R.move rfl) rfl ?_
 refine WO.v (R.eql rfl rfl) rfl ?_
 refine WO.nil ?_
 refine WX.next ?_
 refine WC.cond rfl (fun q=>absurd (of_decide_eq_true q) (by omega)) (fun _=>?_)
 refine WC.skip ?_
 refine WX.next ?_
 refine WC.seq ?_
 refine WC.seq ?_
 refine WC.region ?_
 refine WO.v (R.move rfl) rfl ?_
 refine WO.v (R.move rfl) rfl ?_
 refine WO.v (R.kQ rfl rfl (by omega)) rfl ?_
 refine WO.v (R.move rfl) rfl ?_
 refine WO.v (R.Kx rfl Tryz.underlying40) rfl ?_
 refine WO.v (R.gtr rfl rfl) rfl ?_
 refine WO.nil ?_
 refine WX.next ?_
 refine WC.cond rfl (fun q=>absurd (of_decide_eq_true q) (by omega)) (fun _=>?_)
 refine WC.skip ?_
 refine WX.next ?_
 refine WC.seq ?_
 refine WC.region ?_
 refine WO.v (R.move rfl) rfl ?_
 refine WO.v (R.move rfl) rfl ?_
 refine WO.v (R.move rfl) rfl ?_
 refine WO.v (R.kQ rfl rfl (by omega)) rfl ?_
 refine WO.v (R.mD rfl rfl Tryz.underlying40 dj (eC (i:=0) (by omega)) (by omega)) rfl ?_
 refine WO.v (R.assign rfl) rfl ?_
 refine WO.nil ?_
 refine WX.next ?_
 refine WC.seq ?_
 refine WC.seq ?_
 refine WC.region ?_
 refine WO.v (R.move rfl) rfl ?_
 refine WO.v (R.move rfl) rfl ?_
 refine WO.v (R.move rfl) rfl ?_
 refine WO.v (R.move rfl) rfl ?_
 refine WO.v (R.kQ rfl rfl (by omega)) rfl ?_
 refine WO.v (R.cX rfl rfl Tryz.underlying40 dj (eC (by omega)) (by omega)) rfl ?_
 refine WO.v (R.ovl (tS:=40) (tR:=4) Tryz.func186 rfl rfl (by kernel_rfl) (by kernel_rfl) Tryz.underlying40 dj hne hvb hvb0 hrow rfl rfl) rfl ?_
 refine WO.v (R.not rfl) rfl ?_
 refine WO.nil ?_
 refine WX.next ?_
 refine WC.zX rfl ?_
 refine WC.seq ?_
 refine WC.qB hL [.ex [] (.slice (some ⟨g,0,none⟩) (n+1) c),.ex [] (.int .i64 ((i:Nat):Int)),.ex [] (.int .i64 ((1:Nat):Int)),.ex [1,2] (.int .i64 ((i+1:Nat):Int)),.ex [0,3] (.slice (some ⟨g,(i+1)*2,none⟩) (n+1 - (i+1)) (c - (i+1))),.ex [] (.slice (some ⟨g,0,none⟩) (n+1) c),.ex [] (.int .i64 ((i:Nat):Int)),.ex [5,6] (.slice (some ⟨g,i*2,none⟩) (n+1 - i) (c - i))] 8 (by kernel_rfl) ⟨fun _ _ _ h _=>h,fun _ _ _ h _=>h,fun _ _ _ h _=>h,fun _ _ _ h _=>h,fun _ _ _ h _=>h,fun _ _ _ h _=>h,fun _ _ _ h _=>h,fun _ _ _ h _=>h,trivial⟩ ⟨?_,?_,?_,?_,?_,?_,?_,?_,trivial⟩ ?_
 ·rintro vs wd kd ⟨-⟩
  refine WO.bX (fr':=[(0,.slice (some ⟨g,0,none⟩) (n+1) c)]) ⟨⟨_,rfl,rfl⟩,trivial⟩ ?_
  refine WO.v (R.move rfl) rfl ?_
  refine WO.nil ?_
  exact WX.aV rfl rfl (Kp.refl _)
 ·rintro vs wd kd ⟨-⟩
  refine WO.bX (fr':=[(1,.int .i64 ((i:Nat):Int))]) ⟨⟨_,rfl,rfl⟩,trivial⟩ ?_
  refine WO.v (R.move rfl) rfl ?_
  refine WO.nil ?_
  exact WX.aV rfl rfl (Kp.refl _)
 ·rintro vs wd kd ⟨-⟩
  refine WO.bX (fr':=[(7,.int .i64 ((1:Nat):Int))]) ⟨⟨_,rfl,rfl⟩,trivial⟩ ?_
  refine WO.v (R.move rfl) rfl ?_
  refine WO.nil ?_
  exact WX.aV rfl rfl (Kp.refl _)
 ·rintro vs wd kd ⟨e1,e2,-⟩
  refine WO.bX (fr':=[(70,.int .i64 ((i:Nat):Int)),(71,.int .i64 ((1:Nat):Int))]) ⟨⟨_,rfl,e1⟩,⟨_,rfl,e2⟩,trivial⟩ ?_
  refine WO.v (R.kQ rfl rfl (by omega)) rfl ?_
  refine WO.nil ?_
  exact WX.aV rfl rfl (Kp.refl _)
 ·rintro vs wd kd ⟨e0,e3,-⟩
  refine WO.bX (fr':=[(69,.slice (some ⟨g,0,none⟩) (n+1) c),(72,.int .i64 ((i+1:Nat):Int))]) ⟨⟨_,rfl,e0⟩,⟨_,rfl,e3⟩,trivial⟩ ?_
  refine WO.v (R.cX rfl rfl Tryz.underlying40 dj (eC (by omega)) (by omega)) rfl ?_
  refine WO.nil ?_
  exact WX.aV rfl rfl (Kp.refl _)
 ·rintro vs wd kd ⟨-⟩
  refine WO.bX (fr':=[(0,.slice (some ⟨g,0,none⟩) (n+1) c)]) ⟨⟨_,rfl,rfl⟩,trivial⟩ ?_
  refine WO.v (R.move rfl) rfl ?_
  refine WO.nil ?_
  exact WX.aV rfl rfl (Kp.refl _)
 ·rintro vs wd kd ⟨-⟩
  refine WO.bX (fr':=[(1,.int .i64 ((i:Nat):Int))]) ⟨⟨_,rfl,rfl⟩,trivial⟩ ?_
  refine WO.v (R.move rfl) rfl ?_
  refine WO.nil ?_
  exact WX.aV rfl rfl (Kp.refl _)
 ·rintro vs wd kd ⟨e5,e6,-⟩
  refine WO.bX (fr':=[(74,.slice (some ⟨g,0,none⟩) (n+1) c),(75,.int .i64 ((i:Nat):Int))]) ⟨⟨_,rfl,e5⟩,⟨_,rfl,e6⟩,trivial⟩ ?_
  refine WO.v (R.cX rfl rfl Tryz.underlying40 dj (eC (by omega)) (by omega)) rfl ?_
  refine WO.nil ?_
  exact WX.aV rfl rfl (Kp.refl _)
 rintro vsx w1 k1 ⟨-,-,-,-,e4,-,-,e7,-⟩
 replace k1:Kp [] w w1:=k1
 refine WO.bX (fr':=[(73,.slice (some ⟨g,(i+1)*2,none⟩) (n+1 - (i+1)) (c - (i+1))),(76,.slice (some ⟨g,i*2,none⟩) (n+1 - i) (c - i)),(0,.slice (some ⟨g,0,none⟩) (n+1) c),(1,.int .i64 ((i:Nat):Int)),(2,.slice (some ad) 1 vc)]) ⟨⟨_,rfl,e4⟩,⟨_,rfl,e7⟩,⟨_,rfl,rfl⟩,⟨_,rfl,rfl⟩,⟨_,rfl,rfl⟩,trivial⟩ ?_
 have hg1:w1.heap[g]? = some (.cells (List.toArray cur) 63 (0,0)):=by rw [k1.block g (bz hrow) (by simp)]; exact hrow
 refine WO.v (R.nw rfl rfl Tryz.underlying40 dj hg1 hn2 (hd.kp k1 (bz hrow) (by simp)) (by omega) h1d) rfl ?_
 refine WO.nil ?_
 refine WX.next ?_
 have hg2:(w1.setRow g (cur.take ((i+1)*2)++ds++cur.drop ((i+1)*2+ds.length)).toArray).heap[g]? = some (.cells (List.toArray (cur.take ((i+1)*2)++ds++cur.drop ((i+1)*2+ds.length))) 63 (0,0)):=setRow_heap w1 g _ _ 63 _ hg1
 have hv2:CellsAt (w1.setRow g (cur.take ((i+1)*2)++ds++cur.drop ((i+1)*2+ds.length)).toArray) ad vs:=(hv.kp k1 (bz hvb) (by simp)).kp (Kp.setRow w1 g _) (Nat.lt_of_lt_of_le (bz hvb) k1.size) (by simpa using fun h=>hne h.symm)
 refine WC.seq ?_
 refine WC.region ?_
 refine WO.v (R.move rfl) rfl ?_
 refine WO.v (R.move rfl) rfl ?_
 refine WO.v (R.cX rfl rfl Tryz.underlying40 dj (eC (by omega)) (by omega)) rfl ?_
 refine WO.v (R.move rfl) rfl ?_
 refine WO.v (R.nw rfl rfl Tryz.underlying40 dj hg2 hn1 hv2 (by simp only [List.length_append,List.length_take,List.length_drop]; omega) h1v) rfl ?_
 refine WO.nil ?_
 refine WX.next ?_
 refine WC.seq ?_
 refine WC.region ?_
 refine WO.v (R.move rfl) rfl ?_
 refine WO.v (R.assign rfl) rfl ?_
 refine WO.nil ?_
 refine WX.next ?_
 refine WC.ret ?_
 refine WX.jO ?_
 refine WX.xw rfl rfl ?_
 exact ⟨rfl,w1,k1,rfl⟩
theorem xk {G:Gl} {ρ:List RE} {H:AH} {w:World} (hs:G.shp=al tyT) (hR:Rep G ρ H w) {l m:List (den (.nm .opn))} (hH:getO H 0 = .row 63 (.nm .opn) l) (hl:l.length<1048576) {i:Nat} (hi:i<=l.length) {v0:Value} (h0:Rd (cx G ρ w) ρ (.own 0) v0)
  {ad:Addr} {k:Nat} {cys:List Value} {bAV:AV} (hm:m.length=1) (hb:Rd (cx G ρ w) ρ bAV (.slice (some ad) 1 k)) (hbv:(bAV.vw H).gw (.nm .opn)=some m) (hv:CellsAt w ad cys) (hvl:cys.length=2) (h1v:∀ u ∈ cys,u.oneCell' = true) (hp:Pds (cx G ρ w) (m.flatMap (cellsOf (.nm .opn))) cys)
  (hne:∀ g c n z,ρ[0]? = some (.row g c n z)->ad.block≠g) {curA:Array Value} {tA:TypeId} {fA:Nat × Nat} (hvb:w.heap[ad.block]? = some (.cells curA tA fA)) (hvb0:curA.size≠0) :
  iI Tryz.prog 176 [v0,.int .i64 (i:Int),.slice (some ad) 1 k].toArray w fun v w'=>∃ ρ',Stp (fq 0) ρ w ρ' w' /\ Rep G ρ' ((fW (AV.kill 0) H).set 0 (.row 63 (.nm .opn) (l.take i++m++l.drop i))) w' /\ Rd (cx G ρ' w') ρ' (.own 0) v:=by
 have hT:bO Tryz.prog G.shp tyT:=hs ▸ dx
 obtain ⟨hshp,hlen⟩:=dT hR hH
 have hl64:l.length<=9223372036854775807:=by omega
 have hin:((l.length:Nat):Int)<=9223372036854775807:=by omega
 by_cases hie:i=l.length
 ·subst hie
  have hc:∃ A c,v0 = .slice A l.length c:=by
   rcases h0 with ⟨g,cap,len,z,h1,rfl⟩ | ⟨h1,a,rfl⟩
   ·rcases bW hR hH with ⟨h2,_⟩ | ⟨g',cap',cells,sp,h2,_⟩
    ·rw [h1] at h2; cases h2
    ·rw [h1] at h2; cases h2; exact ⟨_,_,rfl⟩
   ·rcases bW hR hH with ⟨_,h2⟩ | ⟨g',cap',cells,sp,h2,_⟩
    ·subst h2; exact ⟨_,_,rfl⟩
    ·rw [h1] at h2; cases h2
  obtain ⟨A,c,rfl⟩:=hc
  refine xM fun F x y ty hx hy=>?_
  have happ:hP tyT (fq 0) ([]:AFr) H 40 (.own 0) bAV=some ⟨one (.own 0),[],(fW (AV.kill 0) H).set 0 (.row 63 (.nm .opn) (l++m)),[(l.length+m.length)*(Sh.nm NT.opn).bytes<=140737488355328],[]⟩:=by
   unfold hP
   rw [show bU tyT 40=some ⟨.sl 63 (some (.nm .opn)),1,[.em true]⟩ from by kernel_rfl]
   simp only [hbv,hH]
   rfl
  obtain ⟨v,w',h1,ρ',h2,h3,_,h5,_⟩:=h_ (P:=Tryz.prog) (n:=95) (F:=[]) (ty:=ty) (fr:=[]) (x:=.const (.slice A l.length c)) (y:=.const (.slice (some ad) 1 k)) hT hR .nil happ (by
   intro p hp
   rw [List.mem_singleton] at hp; subst hp
   show (l.length+m.length)*16<=_
   omega) h0 hb rfl rfl
  refine ⟨v,w',R.yC h1 hx hy,ρ',h2,?_,h5⟩
  rw [List.take_length,List.drop_length,List.append_nil]
  exact h3
 ·have hlt:i<l.length:=by omega
  rcases bW hR hH with ⟨_,h2⟩ | ⟨g,cap,cells,sp,hρ,hg,hpd,hsz,hcap,hmax⟩
  ·subst h2; simp at hlt
  obtain ⟨hnb,hil,hiH⟩:=mQ hR hH
  have hv0:v0 = .slice (some ⟨g,0,none⟩) l.length cap:=by
   rcases h0 with ⟨g',cap',len,z,h1,rfl⟩ | ⟨h1,a,rfl⟩
   ·rw [hρ] at h1; cases h1; rfl
   ·rw [hρ] at h1; cases h1
  subst hv0
  have hz:(Sh.nm NT.opn).size=2:=rfl
  have hby:(Sh.nm NT.opn).bytes=16:=rfl
  have hcl:cells.length=l.length*2:=by rw [<- hpd.length,cz,hz]
  rw [hz,List.length_append] at hsz
  have hone:∀ u ∈ cells.drop (i*2),u.oneCell' = true:=fun u hu=>hpd.Ep u (List.mem_of_mem_drop hu)
  have hd:CellsAt w ⟨g,i*2,none⟩ (cells.drop (i*2)):=by
   have:=(cQ hg).shift (i*2)
   rwa [add_lit,Nat.zero_add] at this
  have hdl:(cells.drop (i*2)).length=(l.length - i)*2:=by rw [List.length_drop,hcl]; omega
  have hgl:=bz hg
  have hzl:(l.take i++m++l.drop i).length=l.length+1:=by
   rw [List.length_append,List.length_append,List.length_take,List.length_drop,hm]; omega
  have hnew:∀ {c:Cx},(cx G ρ w).le c->Pds c ((l.take i++m++l.drop i).flatMap (cellsOf (.nm .opn))) (cells.take (i*2)++cys++cells.drop (i*2)):=fun {c} hle=>by
   rw [List.flatMap_append,List.flatMap_append]
   exact (((cr hpd i).append hp).append (cF hpd i)).carry hle
  have hnl:(cells.take (i*2)++cys++cells.drop (i*2)).length=(l.length+1)*2:=by
   rw [List.length_append,List.length_append,List.length_take,List.length_drop,hcl,hvl]; omega
  have hbig:(l.take i++m++l.drop i).length*(Sh.nm NT.opn).bytes<=140737488355328:=by rw [hzl,hby]; omega
  -- what is shown of any way
  have fin:∀ (S:List Nat) (g2 cap2:Nat) (sp2:List Value) (w':World),Kp S w w' -> (∀ b ∈ S,b=g)->(g2=g\/w.heap.size<=g2)->w'.heap[g2]? = some (.cells (List.toArray (cells.take (i*2)++cys++cells.drop (i*2)++sp2)) 63 (0,0))->(l.length+1)*2+sp2.length=cap2*2->l.length+1<=cap2->cap2<=maxLen ->
    ∃ ρ',Stp (fq 0) ρ w ρ' w' /\ Rep G ρ' ((fW (AV.kill 0) H).set 0 (.row 63 (.nm .opn) (l.take i++m++l.drop i))) w' /\ Rd (cx G ρ' w') ρ' (.own 0) (.slice (some ⟨g2,0,none⟩) (l.length+1) cap2):=by
   intro S g2 cap2 sp2 w' hk hS hg2 hh hlen2 hle2 hmax2
   obtain ⟨k1,k2,_⟩:=lK (ro:=fq 0) (s':=.nm .opn) (e':=63) (zs:=l.take i++m++l.drop i) hR hH ⟨rfl,rfl⟩ hk (fun b hb=>⟨_,hρ,by rw [hS b hb]; rfl⟩) (r':=.row g2 cap2 (l.take i++m++l.drop i).length (Sh.nm NT.opn).size) (fun b hb=>by
    cases hb
    rcases hg2 with rfl | hg2
    ·exact .inl ⟨_,hρ,rfl⟩
    ·exact .inr ⟨hg2,bz hh⟩) (fun hle=>⟨hshp,hbig,.inr ⟨g2,cap2,_,sp2,rfl,hh,hnew hle,by rw [List.length_append,hnl,hz]; exact hlen2,by rw [hzl]; exact hle2,hmax2⟩⟩)
   exact ⟨_,k1,k2,.inl ⟨g2,cap2,_,_,List.getElem?_set_self hil,by rw [hzl]⟩⟩
  have eo:(i+1)*2=i*2+2:=by omega
  by_cases hroom:l.length+1<=cap
  ·refine (sf hlt hroom hmax hg (by rw [List.length_append]; omega) hv hvb hvb0 (hne _ _ _ _ hρ) hvl hd hdl h1v hone).mono fun v w' ⟨e1,w1,k1,e2⟩=>?_
   subst e1; subst e2
   rw [eo,Nm (by omega) hvl]
   have hk:Kp [g] w ((w1.setRow g ((cells++sp).take (i*2+2)++cells.drop (i*2)++(cells++sp).drop (i*2+2+(cells.drop (i*2)).length)).toArray).setRow g (cells.take (i*2)++cys++cells.drop (i*2)++sp.drop 2).toArray):=((k1.sub (by simp)).step (Kp.setRow w1 g _) (by simp)).step (Kp.setRow _ g _) (by simp)
   have hg1:w1.heap[g]? = some (.cells (List.toArray (cells++sp)) 63 (0,0)):=by rw [k1.block g hgl (by simp)]; exact hg
   exact fin [g] g cap (sp.drop 2) _ hk (by simp) (.inl rfl) (setRow_heap _ g _ _ 63 _ (setRow_heap w1 g _ _ 63 _ hg1)) (by rw [List.length_drop]; omega) hroom hmax
  ·obtain ⟨ti,hi0,hz0,hz1,hz2⟩:=info_parts AE
   have eik:i+(l.length+1 - i)=l.length+1:=by omega
   have hge:=grownCap_ge w (l.length+1) cap 63
   have hgm:=grownCap_le_maxLen w (l.length+1) cap 63 (by simp [maxLen]; omega)
   have hold:(Builtin.firstCells ti.size i (.slice (some ⟨g,0*2,none⟩) i cap)).run Tryz.prog w.drew = .ok (cells.take (i*2)).toArray w.drew:=by
    have h:=run_loadCells_list (P:=Tryz.prog) w.drew ⟨g,0*2,none⟩ (cells.take (i*2)) (by rw [Nat.zero_mul]; exact (cQ hg).take _)
    rw [List.length_take,Nat.min_eq_left (by omega)] at h
    rw [hz1]; exact h
   have happ:∀ (F:Fr) (x y:Operand) (ty:TypeId),ev F x=some (.slice (some ⟨g,0*2,none⟩) i cap)->ev F y=some (.int .i64 ((l.length+1 - i:Nat):Int))->ba Tryz.prog 95 F w (.call { callee:=.builtin .append,args:=#[x,y],argTypes:=#[40,3] }) ty (.slice (some ⟨w.heap.size,0,none⟩) (l.length+1) (grownCap w (l.length+1) cap 63)) (w.drew.alloc (.cells (List.toArray (cells.take (i*2)++((Builtin.zeroCells (Value.agg #[.int .i64 0,.int .i64 0]).cells (l.length+1 - i)).toList++(Builtin.zeroCells (Value.agg #[.int .i64 0,.int .i64 0]).cells (grownCap w (l.length+1) cap 63 - (l.length+1))).toList))) 63)):=fun F x y ty hx hy=>by
    have h:=R.Ux (P:=Tryz.prog) (n:=95) (ty:=ty) hx hy Tryz.underlying40 Tryz.underlying3 hi0 hz0 hold (by omega) (by rw [hz1]; decide) (by omega) (by omega) (by rw [hz2]; omega) (by rw [hz2,eik]; exact growslice_fits (by omega) (by omega))
    rw [eik] at h
    have e:∀ (a:List Value) (b c:Array Value),a.toArray++b++c=(a++(b.toList++c.toList)).toArray:=fun a b c=>by apply Array.ext'; simp
    rw [e] at h
    exact h
   have hcurl:(cells.take (i*2)++((Builtin.zeroCells (Value.agg #[.int .i64 0,.int .i64 0]).cells (l.length+1 - i)).toList++(Builtin.zeroCells (Value.agg #[.int .i64 0,.int .i64 0]).cells (grownCap w (l.length+1) cap 63 - (l.length+1))).toList)).length=grownCap w (l.length+1) cap 63*2:=by
    rw [List.length_append,List.length_append,List.length_take,pz,pz]
    show min _ _+((l.length+1 - i)*2+(grownCap w (l.length+1) cap 63 - (l.length+1))*2)=_
    omega
   have htk:(cells.take (i*2)++((Builtin.zeroCells (Value.agg #[.int .i64 0,.int .i64 0]).cells (l.length+1 - i)).toList++(Builtin.zeroCells (Value.agg #[.int .i64 0,.int .i64 0]).cells (grownCap w (l.length+1) cap 63 - (l.length+1))).toList)).take (i*2)=cells.take (i*2):=List.take_left' (by rw [List.length_take]; omega)
   generalize grownCap w (l.length+1) cap 63=GC at *
   generalize cells.take (i*2)++((Builtin.zeroCells (Value.agg #[.int .i64 0,.int .i64 0]).cells (l.length+1 - i)).toList++(Builtin.zeroCells (Value.agg #[.int .i64 0,.int .i64 0]).cells (GC - (l.length+1))).toList)=cur at *
   have hK1:Kp [] w (w.drew.alloc (.cells (List.toArray cur) 63)):=((Kp.refl w).drew).step (Kp.alloc w.drew _) (by simp)
   have hrow:(w.drew.alloc (.cells (List.toArray cur) 63)).heap[w.heap.size]? = some (.cells (List.toArray cur) 63 (0,0)):=heap_alloc_new w.drew _
   generalize w.drew.alloc (.cells (List.toArray cur) 63)=W1 at *
   refine (vO hlt hcap (by omega) hmax hge hgm happ hrow (by omega) (hv.kp hK1 (bz hvb) (by simp)) hvl (hd.kp hK1 hgl (by simp)) (by omega) (Nat.lt_of_lt_of_le hgl hK1.size) hdl h1v hone).mono fun v w' ⟨e1,w1,k1,e2⟩=>?_
   subst e1; subst e2
   rw [eo,NG (cells:=cells) (by omega) hvl htk]
   have hs1:∀ b ∈ [w.heap.size],b ∈ ([]:List Nat)\/w.heap.size<=b:=fun b hb=>.inr (by rw [List.mem_singleton] at hb; omega)
   have hk:Kp [] w (w1.setRow w.heap.size (cells.take (i*2)++cys++cells.drop (i*2)++cur.drop (i*2+2+(cells.drop (i*2)).length)).toArray):=((hK1.step (Kp.setRow W1 w.heap.size _) hs1).step k1 (by simp)).step (Kp.setRow w1 w.heap.size _) hs1
   have hg1:=(k1.block w.heap.size (by simpa using bz hrow) (by simp)).trans (setRow_heap W1 w.heap.size _ (cur.take (i*2)++cys++cur.drop (i*2+cys.length)).toArray 63 _ hrow)
   exact fin [] w.heap.size GC _ _ hk (by simp) (.inr (Nat.le_refl _)) (setRow_heap w1 w.heap.size _ _ 63 _ hg1) (by rw [List.length_drop]; omega) hge hgm
theorem sR (i:Int) (l m:List (den (.nm .opn))) (h:0<=i/\i<=(l.length:Int)) (hl:l.length<1048576) (hm:m.length=1):Sat Tryz.prog (al tyT) 176 [.c (.own 0),.c (.int i),.c (.fz (.nm .opn) m)] [.row 63 (.nm .opn) l] ⟨[0<=i/\i<=(l.length:Int),l.length<1048576,m.length=1],[.c (.own 0)],some [.row 63 (.nm .opn) (l.take i.toNat++m++l.drop i.toNat)],false⟩:=by
 refine ⟨⟨_,Tryz.func176,by decide,rfl⟩,fun G ρ w vs hs hR hvs=>?_⟩
 obtain ⟨i,rfl⟩:=Int.eq_ofNat_of_zero_le h.1
 cases hvs with | cons h0 hvs=>
 cases hvs with | cons h1 hvs=>
 cases hvs with | cons h2 hvs=>
 cases hvs
 have h1:Pd (cx G ρ w) (.int (i:Int)) _:=h1
 cases h1
 have h0:Rd (cx G ρ w) ρ (.own 0) _:=h0
 have h2:Rd (cx G ρ w) ρ (.fz (.nm .opn) m) _:=h2
 have hH:getO [AO.row 63 (.nm .opn) l] 0 = .row 63 (.nm .opn) l:=rfl
 have hbv:(AV.vw [AO.row 63 (.nm .opn) l] (.fz (.nm .opn) m)).gw (.nm .opn)=some m:=by simp [AV.vw,AV.gw,getO]
 obtain ⟨A,k,cys,rfl,s1,s2,s3,s4⟩:=oz hR hbv h2
 rw [hm] at h2 s1 s3
 rw [hm]
 obtain ⟨ad,rfl,s5⟩:∃ ad,A=some ad/\CellsAt w ad cys:=s3.resolve_left (by decide)
 have hz:(Sh.nm NT.opn).size=2:=rfl
 rw [hz] at s1
 obtain ⟨u,hu⟩:∃ u,cys[0]? = some u:=⟨_,List.getElem?_eq_getElem (by omega)⟩
 obtain ⟨cur,t,f,hc,hc0⟩:=ry (s5 0 u hu)
 have hne:∀ g c n z,ρ[0]? = some (.row g c n z)->ad.block≠g:=fun g c n z hg e=>by
  have h2:Pd (cx G ρ w) (.fz (.nm .opn) m) (.slice (some ad) 1 k):=h2
  have h3:=QW h2 (by rw [hm]; decide)
  exact h3.1.2.1 ⟨0,_,hg,by rw [e]; rfl⟩
 rw [gL] at hc
 refine (xk hs hR hH hl (by omega) h0 hm h2 hbv s5 s1 s2 s4 hne hc hc0).mono fun v w' ⟨ρ',k1,k2,k3⟩=>?_
 exact ⟨[v],rfl,ρ',k2,k1.ext,k1.bx,.cons k3 .nil,fun hb=>by cases hb⟩
theorem FM:(Builtin.zeroCells (Value.agg #[.int .i64 0,.int .i64 0]).cells 1).toList=[.int .i64 0,.int .i64 0]:=by kernel_rfl
set_option maxRecDepth 100000 in
set_option maxHeartbeats 1000000 in
theorem Gk {w:World} {g n i c:Nat} {cur ds:List Value} {ti:TypeInfo} (hi:i<n) (hnc:n<=c) (hcm:c<=maxLen) (hg:w.heap[g]? = some (.cells cur.toArray 63 (0,0))) (hcur:n*2<=cur.length) (hdl:ds.length=(n - (i+1))*2) (hd:CellsAt w (if c=i+1 then ⟨g,0,none⟩ else (⟨g,0,none⟩:Addr).add ((i+1)*2)) ds) (h1d:∀ u ∈ ds,u.oneCell' = true)
  (hi0:Tryz.prog.info? 63=some ti) (hz0:ti.zero=some (.agg #[.int .i64 0,.int .i64 0])) (hz1:ti.size=2) :
  iI Tryz.prog 179 [.slice (some ⟨g,0,none⟩) n c,.int .i64 (i:Int),.int .i64 ((i+1:Nat):Int)].toArray w fun v w'=>v = .slice (some ⟨g,0,none⟩) (i+(n - (i+1))) c/\∃ w1,Kp [] w w1/\w' = (w1.setRow g (cur.take (i*ti.size)++ds++cur.drop (i*ti.size+ds.length)).toArray).setRow g ((cur.take (i*ti.size)++ds++cur.drop (i*ti.size+ds.length)).take ((i+(n - (i+1)))*2)++(Builtin.zeroCells (Value.agg #[.int .i64 0,.int .i64 0]).cells 1).toList++(cur.take (i*ti.size)++ds++cur.drop (i*ti.size+ds.length)).drop ((i+(n - (i+1)))*2+(Builtin.zeroCells (Value.agg #[.int .i64 0,.int .i64 0]).cells 1).toList.length)).toArray:=by
 have hcm:c<=9223372036854775807:=hcm
 refine iI.enter Tryz.func179 rfl rfl rfl rfl ?_
 refine WC.seq ?_
 refine WC.region ?_
 refine WO.v (R.assign rfl) rfl ?_
 refine WO.nil ?_
 refine WX.next ?_
 refine WC.seq ?_
 refine WC.region ?_
 refine WO.v (R.move rfl) rfl ?_
 refine WO.v (R.move rfl) rfl ?_
 refine WO.v (R.move rfl) rfl ?_
 refine WO.v (R.move rfl) rfl ?_
 refine WO.v (R.len rfl Tryz.underlying40) rfl ?_
 refine WO.v (R.slice3 rfl rfl rfl rfl Tryz.underlying40 dj (by omega) (by omega) (by omega)) rfl ?_
 refine WO.nil ?_
 refine WX.next ?_
 refine WC.seq ?_
 refine WC.seq ?_
 refine WC.region ?_
 refine WO.v (R.move rfl) rfl ?_
 refine WO.v (R.move rfl) rfl ?_
 refine WO.v (R.eql rfl rfl) rfl ?_
 refine WO.nil ?_
 refine WX.next ?_
 refine WC.cond rfl (fun q=>absurd (of_decide_eq_true q) (by omega)) (fun _=>?_)
 refine WC.skip ?_
 refine WX.next ?_
 refine WC.seq ?_
 refine WC.region ?_
 refine WO.v (R.move rfl) rfl ?_
 refine WO.v (R.len rfl Tryz.underlying40) rfl ?_
 refine WO.v (R.assign rfl) rfl ?_
 refine WO.nil ?_
 refine WX.next ?_
 refine WC.seq ?_
 refine WC.qB hL [.ex [] (.slice (some ⟨g,0,none⟩) n c),.ex [] (.int .i64 ((i:Nat):Int)),.ex [0,1] (.slice (some ⟨g,0*2,none⟩) (i - 0) (c - 0)),.ex [] (.slice (some ⟨g,0,none⟩) n c),.ex [] (.int .i64 ((i+1:Nat):Int)),.ex [3,4] (.slice (some (if c=i+1 then ⟨g,0,none⟩ else (⟨g,0,none⟩:Addr).add ((i+1)*2))) (n - (i+1)) (c - (i+1)))] 6 (by kernel_rfl) ⟨fun _ _ _ h _=>h,fun _ _ _ h _=>h,fun _ _ _ h _=>h,fun _ _ _ h _=>h,fun _ _ _ h _=>h,fun _ _ _ h _=>h,trivial⟩ ⟨?_,?_,?_,?_,?_,?_,trivial⟩ ?_
 ·rintro vs wd kd ⟨-⟩
  refine WO.bX (fr':=[(0,.slice (some ⟨g,0,none⟩) n c)]) ⟨⟨_,rfl,rfl⟩,trivial⟩ ?_
  refine WO.v (R.move rfl) rfl ?_
  refine WO.nil ?_
  exact WX.aV rfl rfl (Kp.refl _)
 ·rintro vs wd kd ⟨-⟩
  refine WO.bX (fr':=[(1,.int .i64 ((i:Nat):Int))]) ⟨⟨_,rfl,rfl⟩,trivial⟩ ?_
  refine WO.v (R.move rfl) rfl ?_
  refine WO.nil ?_
  exact WX.aV rfl rfl (Kp.refl _)
 ·rintro vs wd kd ⟨e0,e1,-⟩
  refine WO.bX (fr':=[(20,.slice (some ⟨g,0,none⟩) n c),(21,.int .i64 ((i:Nat):Int))]) ⟨⟨_,rfl,e0⟩,⟨_,rfl,e1⟩,trivial⟩ ?_
  refine WO.v (R.mD rfl rfl Tryz.underlying40 dj (eC (i:=0) (by omega)) (by omega)) rfl ?_
  refine WO.nil ?_
  exact WX.aV rfl rfl (Kp.refl _)
 ·rintro vs wd kd ⟨-⟩
  refine WO.bX (fr':=[(0,.slice (some ⟨g,0,none⟩) n c)]) ⟨⟨_,rfl,rfl⟩,trivial⟩ ?_
  refine WO.v (R.move rfl) rfl ?_
  refine WO.nil ?_
  exact WX.aV rfl rfl (Kp.refl _)
 ·rintro vs wd kd ⟨-⟩
  refine WO.bX (fr':=[(2,.int .i64 ((i+1:Nat):Int))]) ⟨⟨_,rfl,rfl⟩,trivial⟩ ?_
  refine WO.v (R.move rfl) rfl ?_
  refine WO.nil ?_
  exact WX.aV rfl rfl (Kp.refl _)
 ·rintro vs wd kd ⟨e3,e4,-⟩
  refine WO.bX (fr':=[(23,.slice (some ⟨g,0,none⟩) n c),(24,.int .i64 ((i+1:Nat):Int))]) ⟨⟨_,rfl,e3⟩,⟨_,rfl,e4⟩,trivial⟩ ?_
  refine WO.v (R.cX rfl rfl Tryz.underlying40 dj PV (by omega)) rfl ?_
  refine WO.nil ?_
  exact WX.aV rfl rfl (Kp.refl _)
 rintro vsx w1 k1 ⟨-,-,e2,-,-,e5,-⟩
 replace k1:Kp [] w w1:=k1
 refine WO.bX (fr':=[(22,.slice (some ⟨g,0*2,none⟩) (i - 0) (c - 0)),(25,.slice (some (if c=i+1 then ⟨g,0,none⟩ else (⟨g,0,none⟩:Addr).add ((i+1)*2))) (n - (i+1)) (c - (i+1))),(7,.int .i64 ((n:Nat):Int))]) ⟨⟨_,rfl,e2⟩,⟨_,rfl,e5⟩,⟨_,rfl,rfl⟩,trivial⟩ ?_
 have hg1:w1.heap[g]? = some (.cells (List.toArray cur) 63 (0,0)):=by rw [k1.block g (bz hg) (by simp)]; exact hg
 have hd1:CellsAt w1 (if c=i+1 then ⟨g,0,none⟩ else (⟨g,0,none⟩:Addr).add ((i+1)*2)) ds:=hd.keep (k1.block _ (by split <;> exact bz hg) (by simp))
 refine WO.v (R.Lh (sl:=i) (sc:=c) rfl rfl Tryz.underlying40 hi0 hg1 (by rw [hz1]; exact hdl) hd1 h1d (by omega) (by rw [hz1]; omega)) rfl ?_
 refine WO.v (R.assign rfl) rfl ?_
 refine WO.nil ?_
 refine WX.next ?_
 have hg2:=setRow_heap w1 g _ (cur.take (i*ti.size)++ds++cur.drop (i*ti.size+ds.length)).toArray 63 _ hg1
 refine WC.seq ?_
 refine WC.region ?_
 refine WO.v (R.move rfl) rfl ?_
 refine WO.v (R.move rfl) rfl ?_
 refine WO.v (R.len rfl Tryz.underlying40) rfl ?_
 refine WO.v (R.move rfl) rfl ?_
 refine WO.v (R.Ai rfl rfl rfl Tryz.underlying40 dj (eC (by omega)) (by omega) (by omega)) rfl ?_
 refine WO.v0 (R.clr rfl (by omega) Tryz.underlying40 hi0 hz0 (by rw [FM]; simp [Value.oneCell']) hg2 (by rw [pz,hz1]; simp only [List.length_append,List.length_take,List.length_drop]; show _+1*2<=_; omega)) ?_
 refine WO.nil ?_
 refine WX.next ?_
 refine WC.seq ?_
 refine WC.region ?_
 refine WO.v (R.move rfl) rfl ?_
 refine WO.v (R.assign rfl) rfl ?_
 refine WO.nil ?_
 refine WX.next ?_
 refine WC.ret ?_
 refine WX.xw rfl rfl ?_
 exact ⟨rfl,w1,k1,rfl⟩
theorem uk (i j:Int) (l:List (den (.nm .opn))) (h:0<=i/\i<(l.length:Int)/\j=i+1):Sat Tryz.prog (al tyT) 179 [.c (.own 0),.c (.int i),.c (.int j)] [.row 63 (.nm .opn) l] ⟨[0<=i/\i<(l.length:Int)/\j=i+1],[.c (.own 0)],some [.row 63 (.nm .opn) (l.take i.toNat++l.drop j.toNat)],false⟩:=by
 refine ⟨⟨_,Tryz.func179,by decide,rfl⟩,fun G ρ w vs hs hR hvs=>?_⟩
 obtain ⟨hi0,hi1,rfl⟩:=h
 obtain ⟨i,rfl⟩:=Int.eq_ofNat_of_zero_le hi0
 have hlt:i<l.length:=by omega
 cases hvs with | cons h0 hvs=>
 cases hvs with | cons h1 hvs=>
 cases hvs with | cons h2 hvs=>
 cases hvs
 have h1:Pd (cx G ρ w) (.int (i:Int)) _:=h1
 have h2:Pd (cx G ρ w) (.int ((i:Int)+1)) _:=h2
 cases h1
 cases h2
 have h0:Rd (cx G ρ w) ρ (.own 0) _:=h0
 have hH:getO [AO.row 63 (.nm .opn) l] 0 = .row 63 (.nm .opn) l:=rfl
 obtain ⟨hshp,hlen⟩:=dT hR hH
 rcases bW hR hH with ⟨_,h2⟩ | ⟨g,cap,cells,sp,hρ,hg,hpd,hsz,hcap,hmax⟩
 ·subst h2; simp at hlt
 obtain ⟨hnb,hil,hiH⟩:=mQ hR hH
 have hz:(Sh.nm NT.opn).size=2:=rfl
 have hby:(Sh.nm NT.opn).bytes=16:=rfl
 have hcl:cells.length=l.length*2:=by rw [<- hpd.length,cz,hz]
 rw [hz,List.length_append] at hsz
 rw [hby] at hlen
 obtain ⟨ti,hi0,hz0,hz1,hz2⟩:=info_parts AE
 have hone:∀ u ∈ cells.drop ((i+1)*2),u.oneCell' = true:=fun u hu=>hpd.Ep u (List.mem_of_mem_drop hu)
 have hd:CellsAt w (if cap=i+1 then ⟨g,0,none⟩ else (⟨g,0,none⟩:Addr).add ((i+1)*2)) (cells.drop ((i+1)*2)):=by
  split
  ·rw [List.drop_of_length_le (by omega)]; exact CellsAt.nil
  ·exact (cQ hg).shift _
 have hv0:∀ v,Rd (cx G ρ w) ρ (.own 0) v->v = .slice (some ⟨g,0,none⟩) l.length cap:=fun v h0=>by
  rcases h0 with ⟨g',cap',len,z,h1,rfl⟩ | ⟨h1,a,rfl⟩
  ·rw [hρ] at h1; cases h1; rfl
  ·rw [hρ] at h1; cases h1
 obtain rfl:=hv0 _ h0
 have e0:((i:Int)+1)=((i+1:Nat):Int):=by omega
 rw [e0]
 refine (Gk hlt hcap hmax hg (by rw [List.length_append]; omega) (by rw [List.length_drop,hcl]; omega) hd hone hi0 hz0 hz1).mono fun v w' ⟨e1,w1,k1,e2⟩=>?_
 subst e1
 have hq:i+(l.length - (i+1))=l.length - 1:=by omega
 rw [hq,hz1,FM] at e2
 rw [hq]
 have hzl:(l.take i++l.drop (i+1)).length=l.length - 1:=by rw [List.length_append,List.length_take,List.length_drop]; omega
 have hnl:(cells.take (i*2)++cells.drop ((i+1)*2)).length=(l.length - 1)*2:=by rw [List.length_append,List.length_take,List.length_drop]; omega
 have htk:((cells++sp).take (i*2)++cells.drop ((i+1)*2)++(cells++sp).drop (i*2+(cells.drop ((i+1)*2)).length)).take ((l.length - 1)*2)=cells.take (i*2)++cells.drop ((i+1)*2):=by
  rw [List.take_append_of_le_length (l₁:=cells) (by omega)]
  exact List.take_left' hnl
 have hr1l:((cells++sp).take (i*2)++cells.drop ((i+1)*2)++(cells++sp).drop (i*2+(cells.drop ((i+1)*2)).length)).length=cap*2:=by
  simp only [List.length_append,List.length_drop,List.length_take]
  omega
 generalize (cells++sp).take (i*2)++cells.drop ((i+1)*2)++(cells++sp).drop (i*2+(cells.drop ((i+1)*2)).length)=r1 at e2 htk hr1l
 rw [htk,List.append_assoc] at e2
 generalize hsp2:([.int .i64 0,.int .i64 0]:List Value)++List.drop ((l.length - 1)*2+([.int .i64 0,.int .i64 0]:List Value).length) r1=sp2 at e2
 have hlen2:(l.length - 1)*2+sp2.length=cap*2:=by
  rw [<- hsp2]
  simp only [List.length_append,List.length_cons,List.length_nil,List.length_drop]
  omega
 have hg1:w1.heap[g]? = some (.cells (List.toArray (cells++sp)) 63 (0,0)):=by rw [k1.block g (bz hg) (by simp)]; exact hg
 have hh:=setRow_heap _ g _ (cells.take (i*2)++cells.drop ((i+1)*2)++sp2).toArray 63 _ (setRow_heap w1 g _ r1.toArray 63 _ hg1)
 have hk:=((k1.sub (T:=[g]) (by simp)).step (Kp.setRow w1 g r1.toArray) (by simp)).step (Kp.setRow _ g (cells.take (i*2)++cells.drop ((i+1)*2)++sp2).toArray) (by simp)
 subst e2
 obtain ⟨k2,k3,_⟩:=lK (ro:=fq 0) (s':=.nm .opn) (e':=63) (zs:=l.take i++l.drop (i+1)) hR hH ⟨rfl,rfl⟩ hk (fun b hb=>⟨_,hρ,by rw [List.mem_singleton] at hb; subst hb; rfl⟩) (r':=.row g cap (l.take i++l.drop (i+1)).length (Sh.nm NT.opn).size) (fun b hb=>by
  cases hb; exact .inl ⟨_,hρ,rfl⟩) (fun hle=>⟨hshp,by rw [hzl,hby]; omega,.inr ⟨g,cap,_,sp2,rfl,hh,by
   rw [List.flatMap_append]; exact ((cr hpd i).append (cF hpd (i+1))).carry hle,by rw [List.length_append,hnl,hz]; exact hlen2,by omega,hmax⟩⟩)
 exact ⟨[_],rfl,_,k3,k2.ext,k2.bx,.cons (.inl ⟨g,cap,_,_,List.getElem?_set_self hil,by rw [hzl]⟩) .nil,fun hb=>by cases hb⟩
def nu {β:Type} (z:β) (k:Int):List (Int × β)->β
 | []=>z
 | p :: r=>if k=p.1 then p.2 else nu z k r
theorem ax {α:Type} {l:List α} {k:Nat} {x:α} (hx:l[k]? = some x):l.take (k+1)=l.take k++[x]:=by
 rw [List.take_add_one,hx]; rfl
theorem FE {α:Type} [DecidableEq α] {l m:List α} (h:¬ ((l.length:Nat):Int)=((m.length:Nat):Int)):false=decide (l=m):=by
 symm; apply decide_eq_false; rintro rfl; exact h rfl
theorem wR {α:Type} [DecidableEq α] {l m:List α} {k:Nat} (hl:l.length=m.length) (h:l.take k=m.take k) (hk:l.length<=k):true=decide (l=m):=by
 symm; apply decide_eq_true
 rwa [List.take_of_length_le hk,List.take_of_length_le (by omega)] at h
def bb (n a b:Int):Bool:=decide (a<=n) && decide (n<=b)
def az {α:Type} (key:α->Int) (most:Int):Int->List α->Bool
 | _,[]=>true
 | a,x :: r=>bb (key x) (a+1) most && az key most (key x) r
def br {α:Type} (key:α->Int) (a:Int) (l:List α):Int:=l.foldl (fun _ x=>key x) a
theorem fk {α:Type} {key:α->Int} {most:Int} {x:α}:∀ (p:List α) (a:Int),az key most a (p++[x])=(az key most a p && bb (key x) (br key a p+1) most)
 | [],a=>by simp [az,br]
 | y :: p,a=>by
  rw [List.cons_append,az,az,fk p,Bool.and_assoc]; rfl
theorem jV {α:Type} {key:α->Int} {most:Int} (q:List α):∀ (p:List α) (a:Int),az key most a (p++q)=true->az key most a p=true
 | [],a,_=>rfl
 | y :: p,a,h=>by
  rw [List.cons_append,az,Bool.and_eq_true] at h
  rw [az,Bool.and_eq_true]
  exact ⟨h.1,jV q p _ h.2⟩
theorem ez {α:Type} {key:α->Int} {a:Int} {l:List α} {k:Nat} {x:α} (hx:l[k]? = some x):key x=br key a (l.take (k+1)):=by
 rw [ax hx,br,List.foldl_append]; rfl
theorem gG {α:Type} {key:α->Int} {a:Int} {l:List α} {k:Nat} {x:α} (h:0<k) (hx:l[k - 1]? = some x):br key a (l.take k)=key x:=by
 obtain ⟨j,rfl⟩:∃ j,k=j+1:=⟨k - 1,by omega⟩
 exact (ez (by simpa using hx)).symm
theorem jj {α:Type} {key:α->Int} {most a:Int} {l:List α} {k:Nat} {x:α} (h:az key most a (l.take k)=true) (hx:l[k]? = some x) (h1:br key a (l.take k)<key x) (h2:key x<=most):az key most a (l.take (k+1))=true:=by
 rw [ax hx,fk,h,Bool.true_and,bb,Bool.and_eq_true,decide_eq_true_eq,decide_eq_true_eq]
 exact ⟨by omega,h2⟩
theorem nq {α:Type} {key:α->Int} {most a:Int} {l:List α} {k:Nat} {x:α} (hx:l[k]? = some x) (h:¬ (br key a (l.take k)<key x/\key x<=most)):az key most a l=false:=by
 cases hr:az key most a l with
 | false=>rfl
 | true=>
  have h1:=jV (l.drop (k+1)) (l.take (k+1)) a (by rw [List.take_append_drop]; exact hr)
  rw [ax hx,fk,Bool.and_eq_true,bb,Bool.and_eq_true,decide_eq_true_eq,decide_eq_true_eq] at h1
  exact absurd ⟨by omega,h1.2.2⟩ h
theorem jh {α:Type} {key:α->Int} {most a:Int} {l:List α} {k:Nat} (h:az key most a (l.take k)=true) (hk:l.length<=k):az key most a l=true:=by
 rwa [List.take_of_length_le hk] at h
def rowF (l:List Int):Bool:=(decide ((1:Int)<=((l.length:Nat):Int)) && decide (((l.length:Nat):Int)<=8)) && az id 64 0 l
theorem jK {l:List Int} {k:Nat} {x:Int} (hx:l[k]? = some x) (h:¬ (br id 0 (l.take k)<x/\x<=64)):false=rowF l:=by
 rw [rowF,nq (key:=id) hx h,Bool.and_false]
theorem Ch {l:List Int} {k:Nat} (h:az id 64 0 (l.take k)=true) (hk:l.length<=k):(decide ((1:Int)<=((l.length:Nat):Int)) && decide (((l.length:Nat):Int)<=8))=rowF l:=by
 rw [rowF,jh h hk,Bool.and_true]
theorem Br {l:List Int} {k:Nat} (h:az id 64 0 (l.take k)=true):0<=br id 0 (l.take k):=by
 by_cases hk:k=0
 ·subst hk; exact Int.le_refl _
 ·by_cases hl:k - 1<l.length
  ·have hx:=List.getElem?_eq_getElem hl
   rw [gG (by omega) hx]
   have e:l.take k=l.take (k - 1)++[l[k - 1]]:=by
    have:=ax hx
    rwa [show k - 1+1=k by omega] at this
   rw [e,fk,Bool.and_eq_true,bb,Bool.and_eq_true,decide_eq_true_eq] at h
   have h0:∀ (p:List Int) (a:Int),0<=a->az id 64 a p=true->0<=br id a p:=by
    intro p
    induction p with
    | nil=>intro a ha _; exact ha
    | cons y p ih=>
     intro a ha hp
     rw [az,Bool.and_eq_true,bb,Bool.and_eq_true,decide_eq_true_eq] at hp
     exact ih (id y) aG hp.2
   have:=h0 _ _ (Int.le_refl 0) h.1
   omega
  ·have h0:∀ (p:List Int) (a:Int),0<=a->az id 64 a p=true->0<=br id a p:=by
    intro p
    induction p with
    | nil=>intro a ha _; exact ha
    | cons y p ih=>
     intro a ha hp
     rw [az,Bool.and_eq_true,bb,Bool.and_eq_true,decide_eq_true_eq] at hp
     exact ih (id y) aG hp.2
   exact h0 _ _ (Int.le_refl 0) h
theorem kq {l:List Int} {k:Nat} (h:az id 64 0 (l.take k)=true) (hk:l.length<=k) (hl:1<=l.length/\l.length<=8):true=rowF l:=by
 rw [rowF,jh h hk,Bool.and_true]; symm; rw [Bool.and_eq_true,decide_eq_true_eq,decide_eq_true_eq]; omega
theorem po {l:List Int} (hl:¬ (1<=l.length/\l.length<=8)):false=rowF l:=by
 symm
 rw [rowF,Bool.and_eq_false_iff]; left
 rw [Bool.and_eq_false_iff,decide_eq_false_iff_not,decide_eq_false_iff_not]; omega
def bn (x:Sess):Bool:=(bb x.seq 0 1048576 && bb x.last.code 0 99) && bb x.last.n 0 1048576
def bp (x:Opn):Bool:=bb x.client 1 8
theorem pP {α:Type} {p:α->Bool} {l:List α} {k:Nat} {x:α} (h:(l.take k).all p=true) (hx:l[k]? = some x) (hp:p x=true):(l.take (k+1)).all p=true:=by
 rw [ax hx,List.all_append,h]; simp [hp]
theorem Gv {α:Type} {p:α->Bool} {l:List α} {k:Nat} {x:α} (hx:l[k]? = some x) (hp:p x=false):l.all p=false:=by
 rw [List.all_eq_false]; exact ⟨x,List.mem_of_getElem? hx,by simp [hp]⟩
theorem GP {α:Type} {p:α->Bool} {l:List α} {k:Nat} (h:(l.take k).all p=true) (hk:l.length<=k):l.all p=true:=by
 rwa [List.take_of_length_le hk] at h
def bl (n:Nat):Nat:=if h:n<128 then 1 else bl (n / 128)+1
termination_by n
decreasing_by omega
theorem ka {n:Nat} (h:¬ n<128):bl n=bl (n / 128)+1:=by rw [bl,dif_neg h]
theorem gZ {n:Nat} (h:n<128):bl n=1:=by rw [bl,dif_pos h]
theorem gA (n:Nat):1<=bl n:=by rw [bl]; split <;> omega
theorem vB:∀ (k n:Nat),n<128 ^ (k+1)->bl n<=k+1
 | 0,n,h=>by rw [gZ (by simpa using h)]; omega
 | k+1,n,h=>by
  by_cases hn:n<128
  ·rw [gZ hn]; omega
  ·rw [ka hn]
   have:=vB k (n / 128) (by rw [Nat.div_lt_iff_lt_mul (by omega),<- Nat.pow_succ]; exact h)
   omega
theorem pD {n:Nat} (h:n<18446744073709551616):bl n<=10:=vB 9 n (Nat.lt_of_lt_of_le h (by decide))
def jT (n i:Nat):UInt8:=UInt8.ofNat (n / 128 ^ i) ||| 128
def eH (n k:Nat):List UInt8:=(List.range k).map (jT n)++List.replicate (bl n - k) 0
def bS (n:Nat):List UInt8:=(eH n (bl n)).set (bl n - 1) (jT n (bl n - 1) &&& 127)
theorem na {n k:Nat} (h:k<=bl n):(eH n k).length=bl n:=by simp [eH]; omega
theorem xe {n k:Nat} (h:k<bl n):(eH n k).set k (jT n k)=eH n (k+1):=by
 unfold eH
 rw [List.set_append_right _ _ (by simp),List.range_succ,List.map_append,List.append_assoc]
 congr 1
 obtain ⟨j,hj⟩:∃ j,bl n - k=j+1:=⟨bl n - k - 1,by omega⟩
 rw [hj,show bl n - (k+1)=j by omega]
 simp [List.replicate_succ]
theorem xZ (n:Nat):List.replicate (bl n) (0:UInt8)=eH n 0:=by simp [eH]
theorem ye {n:Nat} {x:UInt8} (h:(eH n (bl n))[bl n - 1]? = some x):x=jT n (bl n - 1):=by
 have hp:=gA n
 unfold eH at h
 rw [List.getElem?_append_left (by simp; omega)] at h
 simp only [List.getElem?_map,List.getElem?_range (show bl n - 1<bl n by omega),Option.map_some,Option.some.injEq] at h
 exact h.symm
theorem div_pow {n k:Nat}:n / 128 ^ k / 2 ^ 7=n / 128 ^ (k+1):=by show n / 128 ^ k / 128=_; rw [Nat.div_div_eq_div_mul,Nat.pow_succ]
theorem Dl (n:Nat):(bS n).length=bl n:=by rw [bS,List.length_set,na (Nat.le_refl _)]
theorem df {n:Nat} (h:n<18446744073709551616):(bS n).length<=10:=by rw [Dl]; exact pD h
def dL (l:List Int):List UInt8:=l.flatMap fun x=>bS x.toNat
theorem qH {l:List Int} {k:Nat} {x:Int} (hx:l[k]? = some x):dL (l.take k)++bS x.toNat=dL (l.take (k+1)):=by
 rw [ax hx]; simp [dL]
theorem FG {l:List Int} (h:∀ x ∈ l,x<=64):(dL l).length<=10*l.length:=by
 induction l with
 | nil=>simp [dL]
 | cons a l ih=>
  have h1:=ih fun x hx=>h x (List.mem_cons_of_mem _ hx)
  have h2:=df (n:=a.toNat) (by have:=h a (by simp); omega)
  simp only [dL,List.flatMap_cons,List.length_append,List.length_cons] at *
  omega
theorem ku {l:List Int} (h:rowF l=true):∀ x ∈ l,0<x/\x<=64:=by
 rw [rowF,Bool.and_eq_true] at h
 have:∀ (l:List Int) (a:Int),0<=a->az id 64 a l=true->∀ x ∈ l,0<x/\x<=64:=by
  intro l
  induction l with
  | nil=>intro a _ _ x hx; cases hx
  | cons y l ih=>
   intro a ha hl x hx
   rw [az,Bool.and_eq_true,bb,Bool.and_eq_true,decide_eq_true_eq,decide_eq_true_eq] at hl
   have h1:a+1<=y:=hl.1.1
   have h2:y<=64:=hl.1.2
   rcases List.mem_cons.1 hx with rfl | hx
   ·omega
   ·exact ih (id y) (by show 0<=y; omega) hl.2 x hx
 exact this l 0 aG h.2
theorem sa {l:List Int} (h:rowF l=true):1<=l.length/\l.length<=8:=by
 rw [rowF,Bool.and_eq_true,Bool.and_eq_true,decide_eq_true_eq,decide_eq_true_eq] at h
 omega
def bK (l:List Int):List UInt8:=if rowF l then dL l else []
def cj (l:List Int):Int:=if rowF l then 0 else 1
theorem tP {l:List Int} {k:Nat} (hr:rowF l=true) (hk:l.length<=k):dL (l.take k)=bK l:=by rw [List.take_of_length_le hk,bK,if_pos hr]
theorem l_ {l:List Int} (hr:rowF l=false):[]=bK l:=by rw [bK,hr]; rfl
theorem iW {l:List Int} (hr:rowF l=true):0=cj l:=by rw [cj,hr]; rfl
theorem hU {l:List Int} (hr:rowF l=false):1=cj l:=by rw [cj,hr]; rfl
def cV (v t:Int) (x:Snap):Bool:=((decide (cj x.chunks=0) && bb x.set 1 8) && (!x.held || decide (2<=v))) && decide (((x.tag.b.length:Nat):Int)<=t)
def jz (v:Int):Int:=if v<3 then 0 else 16
def eP (s:State) (v:Int):Bool:=!(decide (16<((s.snaps.length:Nat):Int)) || !(az Snap.id (s.next - 1) 0 s.snaps)) && s.snaps.all (cV v (jz v))
def ef (s:State) (v:Int):Bool:=((bb s.version 1 3 && bb s.next 1 1048576) && bb s.keep 0 8) && bb s.quota 0 (if v<3 then 0 else 64)
def lh (s:State):Bool:=az Sess.client 8 0 s.sess && s.sess.all bn
def iU (s:State):Bool:=az Opn.set 8 0 s.opens && s.opens.all bp
def mayF (s:State) (v:Int):Int:=if !(bb v 1 3) then 1 else if (((!ef s v || !lh s) || !iU s) || !eP s v) then 6 else 0
theorem aaN {s:State} {v:Int} (h:(!(bb v 1 3))=true):1=mayF s v:=by rw [mayF,if_pos h]
def fg (next v:Int) (x:Snap):Bool:=((((rowF x.chunks && bb x.id 1 (IntKind.i64.wrap (next - 1))) && bb x.set 1 8) && (!x.held || decide (2<=v))) && decide (((x.tag.b.length:Nat):Int)<=16)) && (decide (x.tag=⟨[]⟩) || decide (3<=v))
def bk {α:Type} (p:α->Bool) (key:α->Int) (most:Int) (l:List α):Bool:=az key most 0 l && l.all p
def lB (s:State) (v:Int):Bool:=((((((decide ((1:Int)<=s.version)) && (decide (s.version<=(3:Int)))) && ((decide ((1:Int)<=s.next)) && (decide (s.next<=(1048576:Int))))) && ((decide ((0:Int)<=s.keep)) && (decide (s.keep<=(8:Int))))) && ((decide ((0:Int)<=s.quota)) && (decide (s.quota<=(64:Int))))) && (decide (s.quota=(0:Int)) || decide ((3:Int)<=v))) && decide (((s.snaps.length:Nat):Int)<=(16:Int))
theorem mO {α:Type} {p:α->Bool} {key:α->Int} {most:Int} {l:List α} {k:Nat} {x:α} (hx:l[k]? = some x):bk p key most (l.take (k+1))=(bk p key most (l.take k) && (bb (key x) 1 most && p x) && (decide (((k:Nat):Int)=(0:Int)) || decide (br key 0 (l.take k)<key x))):=by
 unfold bk
 rw [ax hx,fk,List.all_append]
 have e:bb (key x) (br key 0 (l.take k)+1) most=true↔(br key 0 (l.take k)<key x/\key x<=most):=by
  unfold bb; rw [Bool.and_eq_true,decide_eq_true_eq,decide_eq_true_eq]; omega
 have e1:bb (key x) 1 most=true↔(1<=key x/\key x<=most):=by
  unfold bb; rw [Bool.and_eq_true,decide_eq_true_eq,decide_eq_true_eq]
 have hp:∀ (q:List α) (a:Int),0<=a->az key most a q=true->q≠[]->1<=br key a q:=by
  intro q
  induction q with
  | nil=>intro a _ _ h; exact absurd rfl h
  | cons y q ih=>
   intro a ha hq _
   rw [az,Bool.and_eq_true,bb,Bool.and_eq_true,decide_eq_true_eq] at hq
   cases q with
   | nil=>show 1<=key y; omega
   | cons z q=>exact ih (key y) (by omega) hq.2 (by simp)
 cases hr:az key most 0 (l.take k) with
 | false=>simp
 | true=>
  by_cases hk:k=0
  ·subst hk
   have h0:br key 0 (l.take 0)=0:=rfl
   have e2:bb (key x) (br key 0 (l.take 0)+1) most=bb (key x) 1 most:=by rw [h0]; rfl
   rw [e2]; simp
  ·have hne:l.take k≠[]:=by
    intro h
    have h3:(l.take k).length=0:=by rw [h]; rfl
    have h2:=kj hx
    rw [List.length_take] at h3
    omega
   have h1:=hp _ _ (Int.le_refl 0) hr hne
   have e3:bb (key x) (br key 0 (l.take k)+1) most=(bb (key x) 1 most && decide (br key 0 (l.take k)<key x)):=by
    rw [Bool.eq_iff_iff,Bool.and_eq_true,e,e1,decide_eq_true_eq]; omega
   have e4:decide (((k:Nat):Int)=(0:Int))=false:=decide_eq_false (by omega)
   rw [e3,e4]
   cases bb (key x) 1 most <;> cases decide (br key 0 (l.take k)<key x) <;> cases (l.take k).all p <;> cases hpx:p x <;> simp [hpx]
theorem Bb {B:Bool} {l:List Sess} {k:Nat} {x:Sess} (hx:l[k]? = some x):(B && bk bn Sess.client 8 (l.take (k+1)))=(((((((B && bk bn Sess.client 8 (l.take k)) && ((decide ((1:Int)<=x.client)) && (decide (x.client<=(8:Int))))) && ((decide ((0:Int)<=x.seq)) && (decide (x.seq<=(1048576:Int))))) && ((decide ((0:Int)<=x.last.code)) && (decide (x.last.code<=(99:Int))))) && ((decide ((0:Int)<=x.last.n)) && (decide (x.last.n<=(1048576:Int)))))) && (decide (((k:Nat):Int)=(0:Int)) || decide (br Sess.client 0 (l.take k)<x.client))):=by
 rw [mO hx]
 show (B && (_ && (((decide ((1:Int)<=x.client)) && (decide (x.client<=(8:Int)))) && ((((decide ((0:Int)<=x.seq)) && (decide (x.seq<=(1048576:Int)))) && ((decide ((0:Int)<=x.last.code)) && (decide (x.last.code<=(99:Int))))) && ((decide ((0:Int)<=x.last.n)) && (decide (x.last.n<=(1048576:Int)))))) && _))=_
 cases B <;> cases bk bn Sess.client 8 (l.take k) <;> cases ((decide ((1:Int)<=x.client)) && (decide (x.client<=(8:Int)))) <;> cases ((decide ((0:Int)<=x.seq)) && (decide (x.seq<=(1048576:Int)))) <;> cases ((decide ((0:Int)<=x.last.code)) && (decide (x.last.code<=(99:Int)))) <;> cases ((decide ((0:Int)<=x.last.n)) && (decide (x.last.n<=(1048576:Int)))) <;> rfl
theorem BK {B:Bool} {l:List Opn} {k:Nat} {x:Opn} (hx:l[k]? = some x):(B && bk bp Opn.set 8 (l.take (k+1)))=((((B && bk bp Opn.set 8 (l.take k)) && ((decide ((1:Int)<=x.set)) && (decide (x.set<=(8:Int))))) && ((decide ((1:Int)<=x.client)) && (decide (x.client<=(8:Int))))) && (decide (((k:Nat):Int)=(0:Int)) || decide (br Opn.set 0 (l.take k)<x.set))):=by
 rw [mO hx]
 show (B && (_ && (((decide ((1:Int)<=x.set)) && (decide (x.set<=(8:Int)))) && ((decide ((1:Int)<=x.client)) && (decide (x.client<=(8:Int))))) && _))=_
 cases B <;> cases bk bp Opn.set 8 (l.take k) <;> cases ((decide ((1:Int)<=x.set)) && (decide (x.set<=(8:Int)))) <;> cases ((decide ((1:Int)<=x.client)) && (decide (x.client<=(8:Int)))) <;> rfl
def dC (s:State) (v:Int) (l:List Snap):Bool:=bk (fg s.next v) Snap.id (IntKind.i64.wrap (s.next - 1)) l
theorem jD {B:Bool} {s:State} {v:Int} {l:List Snap} {k:Nat} {x:Snap} (hx:l[k]? = some x):(B && dC s v (l.take (k+1)))=(((B && dC s v (l.take k)) && fg s.next v x) && (decide (((k:Nat):Int)=(0:Int)) || decide (br Snap.id 0 (l.take k)<x.id))):=by
 unfold dC
 rw [mO hx]
 have e:(bb x.id 1 (IntKind.i64.wrap (s.next - 1)) && fg s.next v x)=fg s.next v x:=by
  unfold fg
  cases bb x.id 1 (IntKind.i64.wrap (s.next - 1)) <;> simp
 rw [e]
 cases B <;> cases bk (fg s.next v) Snap.id (IntKind.i64.wrap (s.next - 1)) (l.take k) <;> cases fg s.next v x <;> rfl
theorem kz {α:Type} {key:α->Int} {most:Int}:∀ {l:List α} {a:Int},0<=a->az key most a l=true->∀ x ∈ l,1<=key x/\key x<=most
 | [],_,_,_,x,hx=>by cases hx
 | y :: l,a,ha,h,x,hx=>by
  rw [az,Bool.and_eq_true,bb,Bool.and_eq_true,decide_eq_true_eq,decide_eq_true_eq] at h
  rcases List.mem_cons.1 hx with rfl | hx
  ·omega
  ·exact kz aG h.2 x hx
theorem MT {z:Int} (h:I64 z):IntKind.i64.wrap z=z:=I64.wrap h
theorem Rw {v:Int} {x:Snap}:(decide (((x.tag.b.length:Nat):Int)<=16) && (decide (x.tag=⟨[]⟩) || decide (3<=v)))=decide (((x.tag.b.length:Nat):Int)<=jz v):=by
 have e:x.tag=⟨[]⟩↔x.tag.b.length=0:=by
  constructor
  ·intro h; rw [h]; rfl
  ·intro h; cases hx:x.tag with | mk b=>rw [hx] at h; simp at h; rw [h]
 rw [Bool.eq_iff_iff,Bool.and_eq_true,Bool.or_eq_true,decide_eq_true_eq,decide_eq_true_eq,decide_eq_true_eq,decide_eq_true_eq,e,jz]
 split <;> omega
theorem xA (l:List Int):decide (cj l=0)=rowF l:=by
 unfold cj; cases rowF l <;> rfl
theorem wI {next v:Int} {x:Snap} (hw:IntKind.i64.wrap (next - 1)=next - 1) (h:1<=x.id/\x.id<=next - 1):fg next v x=cV v (jz v) x:=by
 have e:bb x.id 1 (next - 1)=true:=by rw [bb,Bool.and_eq_true,decide_eq_true_eq,decide_eq_true_eq]; exact h
 unfold fg cV
 rw [hw,e,xA,<- Rw]
 cases rowF x.chunks <;> cases bb x.set 1 8 <;> cases (!x.held || decide (2<=v)) <;> simp
theorem HO {q v:Int}:(((decide ((0:Int)<=q)) && (decide (q<=(64:Int)))) && (decide (q=(0:Int)) || decide ((3:Int)<=v)))=bb q 0 (if v<3 then 0 else 64):=by
 rw [Bool.eq_iff_iff,bb]
 simp only [Bool.and_eq_true,Bool.or_eq_true,decide_eq_true_eq]
 split <;> omega
theorem Xe {s:State} {v:Int} {k k2 k3:Nat} (h1:s.sess.length<=k) (h2:s.opens.length<=k2) (h3:s.snaps.length<=k3) :
  (((lB s v && bk bn Sess.client 8 (s.sess.take k)) && bk bp Opn.set 8 (s.opens.take k2)) && dC s v (s.snaps.take k3)) = !(((!ef s v || !lh s) || !iU s) || !eP s v):=by
 rw [List.take_of_length_le h1,List.take_of_length_le h2,List.take_of_length_le h3]
 have e0:lB s v=(ef s v && decide (((s.snaps.length:Nat):Int)<=(16:Int))):=by
  unfold lB ef
  rw [<- HO]
  show ((((_ && bb s.next 1 1048576) && _) && _) && _ && _)=_
  simp only [bb,Bool.and_assoc]
 have e1:bk bn Sess.client 8 s.sess=lh s:=rfl
 have e2:bk bp Opn.set 8 s.opens=iU s:=rfl
 rw [e0,e1,e2]
 cases hn:ef s v with
 | false=>simp
 | true=>
  have hnx:1<=s.next/\s.next<=1048576:=by
   unfold ef at hn
   simp only [Bool.and_eq_true,bb,decide_eq_true_eq] at hn
   exact hn.1.1.2
  have hw:IntKind.i64.wrap (s.next - 1)=s.next - 1:=MT ⟨by omega,by omega⟩
  have e3:(decide (((s.snaps.length:Nat):Int)<=(16:Int)) && dC s v s.snaps)=eP s v:=by
   unfold dC bk eP
   rw [hw]
   have ed:decide (16<((s.snaps.length:Nat):Int)) = !decide (((s.snaps.length:Nat):Int)<=(16:Int)):=by
    rw [<- decide_not,Bool.eq_iff_iff,decide_eq_true_eq,decide_eq_true_eq]; omega
   rw [ed]
   cases hr:az Snap.id (s.next - 1) 0 s.snaps with
   | false=>simp
   | true=>
    have:s.snaps.all (fg s.next v)=s.snaps.all (cV v (jz v)):=by
     rw [Bool.eq_iff_iff,List.all_eq_true,List.all_eq_true]
     constructor
     ·intro h x hx; rw [<- wI hw (kz (Int.le_refl 0) hr x hx)]; exact h x hx
     ·intro h x hx; rw [wI hw (kz (Int.le_refl 0) hr x hx)]; exact h x hx
    rw [this]
    cases decide (((s.snaps.length:Nat):Int)<=(16:Int)) <;> simp
  rw [<- e3]
  cases lh s <;> cases iU s <;> cases decide (((s.snaps.length:Nat):Int)<=(16:Int)) <;> cases dC s v s.snaps <;> rfl
theorem Ue {s:State} {v:Int} {k k2 k3:Nat} (hv:(!(bb v 1 3))=false) (h1:s.sess.length<=k) (h2:s.opens.length<=k2) (h3:s.snaps.length<=k3)
  (h:(!(((lB s v && bk bn Sess.client 8 (s.sess.take k)) && bk bp Opn.set 8 (s.opens.take k2)) && dC s v (s.snaps.take k3)))=true):6=mayF s v:=by
 rw [Xe h1 h2 h3,Bool.not_not] at h
 rw [mayF,hv,if_neg (by decide),if_pos h]
theorem Wr {s:State} {v:Int} {k k2 k3:Nat} (hv:(!(bb v 1 3))=false) (h1:s.sess.length<=k) (h2:s.opens.length<=k2) (h3:s.snaps.length<=k3)
  (h:(!(((lB s v && bk bn Sess.client 8 (s.sess.take k)) && bk bp Opn.set 8 (s.opens.take k2)) && dC s v (s.snaps.take k3)))=false):0=mayF s v:=by
 rw [Xe h1 h2 h3,Bool.not_not] at h
 rw [mayF,hv,if_neg (by decide),h,if_neg (by decide)]
def a_ (k:Int):Int:=nu 0 k [((1:Int),(1:Int)),((2:Int),(1:Int)),((3:Int),(1:Int)),((4:Int),(1:Int)),((5:Int),(1:Int)),((6:Int),(1:Int)),((7:Int),(1:Int)),((8:Int),(1:Int)),((9:Int),(2:Int)),((10:Int),(2:Int)),((11:Int),(3:Int)),((12:Int),(3:Int))]
theorem Mn {k:Int} (h:1<=k/\k<=12):a_ k=if k<=8 then 1 else if k<=10 then 2 else 3:=by
 have:k=1\/k=2\/k=3\/k=4\/k=5\/k=6\/k=7\/k=8\/k=9\/k=10\/k=11\/k=12:=by omega
 rcases this with rfl | rfl | rfl | rfl | rfl | rfl | rfl | rfl | rfl | rfl | rfl | rfl <;> rfl
theorem zd {k:Int} (h:¬ (1<=k/\k<=12)):a_ k=0:=by
 unfold a_
 simp only [nu]
 repeat rw [if_neg (by omega)]
theorem qk {n a b:Int} (h:bb n a b=true):a<=n/\n<=b:=by unfold bb at h; rw [Bool.and_eq_true,decide_eq_true_eq,decide_eq_true_eq] at h; exact h
theorem inF {n a b:Int} (h:bb n a b=false):¬ (a<=n/\n<=b):=fun h2=>by
 have:bb n a b=true:=by unfold bb; rw [Bool.and_eq_true,decide_eq_true_eq,decide_eq_true_eq]; exact h2
 rw [h] at this; cases this
def gQ (x:Int) (l:List Int):Int:=match l.findIdx? (fun y=>decide (x=y)) with | some i=>(i:Int) | none=>-1
theorem Ec {x y:Int} {l:List Int} {k:Nat} (h:∀ j y,j<k->l[j]? = some y->¬ x=y) (hy:l[k]? = some y) (hxy:x=y):(k:Int)=gQ x l:=by
 have:l.findIdx? (fun y=>decide (x=y))=some k:=by
  obtain ⟨hk,rfl⟩:=List.getElem?_eq_some_iff.1 hy
  rw [List.findIdx?_eq_some_iff_getElem]
  exact ⟨hk,decide_eq_true hxy,fun j hj=>by simpa using h j _ hj (List.getElem?_eq_getElem aG)⟩
 simp [gQ,this]
theorem zQ (x:Int) (l:List Int):decide (0<=gQ x l)=l.contains x:=by
 unfold gQ
 cases h:l.findIdx? (fun y=>decide (x=y)) with
 | none=>
  rw [List.findIdx?_eq_none_iff] at h
  have:l.contains x=false:=by
   rw [<- Bool.not_eq_true,List.contains_iff_mem]
   intro hm; have:=h x hm; simp at this
  rw [this]; rfl
 | some i=>
  rw [List.findIdx?_eq_some_iff_getElem] at h
  obtain ⟨hi,hp,_⟩:=h
  have:l.contains x=true:=by
   rw [List.contains_iff_mem,of_decide_eq_true hp]; exact List.getElem_mem hi
  rw [this]; simp
def iy (n most:Int) (named:Bool):Bool:=if named then (decide (1<=n) && decide (n<=most)) else decide (n=0)
def gP (k:Int):Int × Int:=nu (0,0) k [((6:Int),((0:Int),(8:Int))),((8:Int),((2:Int),(3:Int))),((12:Int),((0:Int),(64:Int)))]
def wW (c:Command):Bool:=if c.kind=3 then rowF c.chunks else decide (((c.chunks.length:Nat):Int)=0)
def Vt (c:Command):Bool:=if c.kind=11 then decide (((c.text.b.length:Nat):Int)<=16) else decide (c.text=⟨[]⟩)
def eF (c:Command):Bool:=((((((((decide ((gP c.kind).1<=c.n) && decide (c.n<=(gP c.kind).2)) && wW c) && Vt c) && iy c.client 8 (!([(8:Int)].contains c.kind))) && iy c.seq 1048576 (!([(1:Int),8].contains c.kind))) && iy c.set 8 ([(2:Int),3,4].contains c.kind)) && iy c.id 1048576 ([(5:Int),7,9,10,11].contains c.kind)))
def bc (c:Command) (v:Int):Int:=if !(bb v 1 3) || decide (a_ c.kind=0) then 1 else if v<a_ c.kind then 10 else if !eF c then 1 else 0
def Ni (n:Int) (used:Bool) (lo hi:Int):Bool:=if used then (decide (lo<=n) && decide (n<=hi)) else decide (n=0)
def kX (k:Int):Int × Int:=(if k=8 then 2 else 0,if k=8 then 3 else if k=12 then 64 else 8)
theorem zx {s:Str}:decide (((s.b.length:Nat):Int)=0)=decide (s=⟨[]⟩):=by
 cases s with | mk b=>
 cases b with
 | nil=>simp
 | cons a t=>rw [Bool.eq_iff_iff]; simp; omega
theorem vj {k:Int}:(!decide (k=8))=(!([(8:Int)].contains k)):=by
 rw [Bool.eq_iff_iff]; simp
theorem Fm {k:Int}:(!decide (k=8) && !decide (k=1))=(!([(1:Int),8].contains k)):=by
 rw [Bool.eq_iff_iff]; simp; omega
theorem Gq {k:Int}:(decide (2<=k) && decide (k<=4))=([(2:Int),3,4].contains k):=by
 rw [Bool.eq_iff_iff]; simp; omega
theorem Kr {k:Int}:((decide (k=5) || decide (k=7)) || (decide (9<=k) && decide (k<=11)))=([(5:Int),7,9,10,11].contains k):=by
 rw [Bool.eq_iff_iff]; simp; omega
theorem RM {k n:Int}:Ni n ((decide (k=6) || decide (k=8)) || decide (k=12)) (kX k).1 (kX k).2=(decide ((gP k).1<=n) && decide (n<=(gP k).2)):=by
 by_cases h6:k=6
 ·subst h6; rfl
 by_cases h8:k=8
 ·subst h8; rfl
 by_cases h12:k=12
 ·subst h12; rfl
 have e:gP k=(0,0):=by simp [gP,nu,h6,h8,h12]
 rw [e,Bool.eq_iff_iff]
 simp [Ni,h6,h8,h12]
 omega
theorem RK {c:Command}:(decide (((c.text.b.length:Nat):Int)=0) || (decide (c.kind=11) && decide (((c.text.b.length:Nat):Int)<=16)))=Vt c:=by
 unfold Vt
 by_cases h:c.kind=11
 ·rw [if_pos h,Bool.eq_iff_iff]; simp only [Bool.or_eq_true,Bool.and_eq_true,decide_eq_true_eq,h,true_and]; omega
 ·rw [if_neg h,zx]; simp [h]
theorem Zx {n m:Int} {u:Bool}:Ni n u 1 m=iy n m u:=rfl
theorem Hx {c:Command} :
  ((((((Ni c.client (!decide (c.kind=8)) 1 8 && Ni c.seq (!decide (c.kind=8) && !decide (c.kind=1)) 1 1048576) && Ni c.set (decide (2<=c.kind) && decide (c.kind<=4)) 1 8) &&
   Ni c.id ((decide (c.kind=5) || decide (c.kind=7)) || (decide (9<=c.kind) && decide (c.kind<=11))) 1 1048576) &&
   Ni c.n ((decide (c.kind=6) || decide (c.kind=8)) || decide (c.kind=12)) (kX c.kind).1 (kX c.kind).2) && wW c) &&
   (decide (((c.text.b.length:Nat):Int)=0) || (decide (c.kind=11) && decide (((c.text.b.length:Nat):Int)<=16))))=eF c:=by
 rw [Fm,vj,Gq,Kr,RM,RK]
 unfold eF
 simp only [Zx]
 ac_rfl
theorem VI {c:Command} {v:Int} (h:(!(bb v 1 3) || decide (a_ c.kind=0))=true):1=bc c v:=by rw [bc,if_pos h]
theorem OW {c:Command} {v:Int} (h:(!(bb v 1 3) || decide (a_ c.kind=0))=false) (h2:v<a_ c.kind):10=bc c v:=by rw [bc,h,if_neg (by decide),if_pos h2]
theorem Sb {c:Command} {v:Int} (h:(!(bb v 1 3) || decide (a_ c.kind=0))=false) (h2:¬ v<a_ c.kind) (h3:(!eF c)=true):1=bc c v:=by rw [bc,h,if_neg (by decide),if_neg h2,if_pos h3]
theorem WT {c:Command} {v:Int} (h:(!(bb v 1 3) || decide (a_ c.kind=0))=false) (h2:¬ v<a_ c.kind) (h3:(!eF c)=false):0=bc c v:=by rw [bc,h,if_neg (by decide),if_neg h2,h3,if_neg (by decide)]
def nd (c:Command):Bool:=(((bb c.client 0 1048576 && bb c.seq 0 1048576) && bb c.set 0 1048576) && bb c.id 0 1048576) && bb c.n 0 1048576
def dG (c:Command) (v:Int):Bool:=(((bb c.kind 1 99 && (decide (a_ c.kind=0) || decide (v<a_ c.kind))) && nd c) && (decide (((c.chunks.length:Nat):Int)=0) || rowF c.chunks)) && (decide (((c.text.b.length:Nat):Int)=0) || (decide (3<=v) && decide (((c.text.b.length:Nat):Int)<=16)))
theorem HM {c:Command} {v:Int} (h:((c.kind<1\/99<c.kind)\/(¬ a_ c.kind=0/\a_ c.kind<=v))):false=dG c v:=by
 have:(bb c.kind 1 99 && (decide (a_ c.kind=0) || decide (v<a_ c.kind)))=false:=by
  rw [<- Bool.not_eq_true]; simp only [bb,Bool.and_eq_true,Bool.or_eq_true,decide_eq_true_eq]; omega
 unfold dG; rw [this]; rfl
theorem Mu {c:Command} {v:Int} (h:(c.client<0\/1048576<c.client)\/(c.seq<0\/1048576<c.seq)\/(c.set<0\/1048576<c.set)\/(c.id<0\/1048576<c.id)\/(c.n<0\/1048576<c.n)):false=dG c v:=by
 have:nd c=false:=by
  rw [<- Bool.not_eq_true]; unfold nd; simp only [bb,Bool.and_eq_true,decide_eq_true_eq]; omega
 unfold dG; rw [this,Bool.and_false]; rfl
theorem Kc {c:Command} {v:Int} (h:0<((c.chunks.length:Nat):Int)/\rowF c.chunks=false):false=dG c v:=by
 have:(decide (((c.chunks.length:Nat):Int)=0) || rowF c.chunks)=false:=by
  rw [h.2,Bool.or_false]; exact decide_eq_false (by omega)
 unfold dG; rw [this,Bool.and_false]; rfl
theorem yQ {c:Command} {v:Int} (h1:¬ ((c.kind<1\/99<c.kind)\/(¬ a_ c.kind=0/\a_ c.kind<=v))) (h2:¬ ((c.client<0\/1048576<c.client)\/(c.seq<0\/1048576<c.seq)\/(c.set<0\/1048576<c.set)\/(c.id<0\/1048576<c.id)\/(c.n<0\/1048576<c.n)))
  (h3:(¬ (0<((c.chunks.length:Nat):Int)))\/rowF c.chunks=true):dG c v=(decide (((c.text.b.length:Nat):Int)=0) || (decide (3<=v) && decide (((c.text.b.length:Nat):Int)<=16))):=by
 have e1:(bb c.kind 1 99 && (decide (a_ c.kind=0) || decide (v<a_ c.kind)))=true:=by
  simp only [bb,Bool.and_eq_true,Bool.or_eq_true,decide_eq_true_eq]; omega
 have e2:nd c=true:=by unfold nd; simp only [bb,Bool.and_eq_true,decide_eq_true_eq]; omega
 have e3:(decide (((c.chunks.length:Nat):Int)=0) || rowF c.chunks)=true:=by
  rcases h3 with h3 | h3
  ·rw [decide_eq_true (show ((c.chunks.length:Nat):Int)=0 by omega)]; rfl
  ·rw [h3,Bool.or_true]
 unfold dG; rw [e1,e2,e3]; rfl
theorem QE {c:Command} {v:Int} (h1:¬ ((c.kind<1\/99<c.kind)\/(¬ a_ c.kind=0/\a_ c.kind<=v))) (h2:¬ ((c.client<0\/1048576<c.client)\/(c.seq<0\/1048576<c.seq)\/(c.set<0\/1048576<c.set)\/(c.id<0\/1048576<c.id)\/(c.n<0\/1048576<c.n)))
  (h3:(¬ (0<((c.chunks.length:Nat):Int)))\/rowF c.chunks=true) (h4:v<3):decide (c.text=⟨[]⟩)=dG c v:=by
 rw [yQ h1 h2 h3,zx,decide_eq_false (show ¬ (3:Int)<=v by omega)]; simp
theorem PE {c:Command} {v:Int} (h1:¬ ((c.kind<1\/99<c.kind)\/(¬ a_ c.kind=0/\a_ c.kind<=v))) (h2:¬ ((c.client<0\/1048576<c.client)\/(c.seq<0\/1048576<c.seq)\/(c.set<0\/1048576<c.set)\/(c.id<0\/1048576<c.id)\/(c.n<0\/1048576<c.n)))
  (h3:(¬ (0<((c.chunks.length:Nat):Int)))\/rowF c.chunks=true) (h4:¬ v<3):decide (((c.text.b.length:Nat):Int)<=16)=dG c v:=by
 rw [yQ h1 h2 h3,Bool.eq_iff_iff]; simp only [Bool.or_eq_true,Bool.and_eq_true,decide_eq_true_eq]; omega
def cH (k:Int):Bool:=decide (1<=k) && decide (k<=3)
theorem vV {α:Type} {a b:List α} {k:Nat} {d:α} (h:a.take k=b.take k) (ha:k<a.length) (hb:k<b.length) (e:a.getD k d=b.getD k d):a.take (k+1)=b.take (k+1):=by
 have h1:a[k]? = some (a.getD k d):=by rw [List.getD_eq_getElem?_getD,List.getElem?_eq_getElem ha]; rfl
 have h2:b[k]? = some (b.getD k d):=by rw [List.getD_eq_getElem?_getD,List.getElem?_eq_getElem hb]; rfl
 rw [ax h1,ax h2,h,e]
theorem uh {s:Str} {n:Nat} (h:(s.b.length:Int)<=n):s=⟨s.b.take n⟩:=by
 cases s; rw [List.take_of_length_le (by simpa using h)]
theorem Q_ {l:List Int} {k:Nat} {x:Int} (hx:l[k]? = some x):x=br id 0 (l.take (k+1)):=ez (key:=id) hx
theorem He {l:List Int} {k:Nat} {x:Int} (h:az id 64 0 (l.take k)=true) (hx:l[k]? = some x) (h1:br id 0 (l.take k)<x) (h2:x<=64):az id 64 0 (l.take (k+1))=true:=jj (key:=id) h hx (by dsimp only [id]; omega) (by dsimp only [id]; omega)
def WY (l:List Int):List (Nat × LI):=[(5,{ σ:=Nat,F:=fun k=>([(3,one (.int (br id 0 (l.take k)))),(14,one (.fz .int (l))),(15,one (.int (l).length)),(16,one (.int k))],[]),J:=fun k=>k<=l.length/\az id 64 0 (l.take k)=true/\1<=l.length/\l.length<=8,μ:=fun k=>(l).length - k })]
def Od (a:List Int) (b:List Int):List (Nat × LI):=[(4,{ σ:=Nat,F:=fun k=>([(0,one (.fz .int (a))),(1,one (.fz .int (b))),(5,one (.int k))],[]),J:=fun k=>k<=a.length/\a.length=b.length/\a.take k=b.take k,μ:=fun k=>a.length - k })]
theorem Mw (k:Int) (r0:Bool):ck tyT kS [] Tryz.f39 [.c (.int (k))] [] [.c (.bool (.atom (r0)))]=(I64 k->(decide ((1:Int)<=k) && decide (k<=(3:Int)))=r0):=by kernel_rfl
theorem JN (k:Int):Sat Tryz.prog (al tyT) 39 [.c (.int (k))] [] ⟨[],[.c (.bool (.atom ((cH k))))],none,false⟩:=by
 refine aJ dU [] Tryz.func39 (by decide) (by kernel_rfl) ?_
 rw [Mw]
 grind [cH]
theorem VL (l:List Int) (r0:Bool):ck tyT kS (WY l) Tryz.f80 [.c (.fz .int (l))] [] [.c (.bool (.atom (r0)))]=((fun (q3:Int)=>(fun (q2:Int)=>(fun (q1:Nat)=>(fun (q0:Prop)=>l.length*(8:Nat)<=(140737488355328:Nat)->(q3<(1:Int)\/(8:Int)<q3->false=r0)/\((1:Int)<=q3/\q3<=(8:Int)->∃ (s0:Nat),(q2=br id q2 (List.take s0 l)/\l=l/\q3=(↑q1:Int)/\q2=(↑s0:Int))/\(s0<=q1/\az id (64:Int) q2 (List.take s0 l)=true/\q0)/\∀ (s:Nat),s<=q1/\az id (64:Int) q2 (List.take s l)=true/\q0->((↑s:Int)<(↑q1:Int)->q2<=(↑s:Int)/\(↑s:Int)<q3/\∀ (x:Int),l[s]? = some x->I64 x->(x<=br id q2 (List.take s l)\/(64:Int)<x->false=r0)/\(br id q2 (List.take s l)<x/\x<=(64:Int)->I64 ((↑s:Int)+(1:Int))/\∃ (s':Nat),(x=br id q2 (List.take s' l)/\l=l/\(↑q1:Int)=(↑q1:Int)/\(↑s:Int)+(1:Int)=(↑s':Int))/\(s' <= q1/\az id (64:Int) q2 (List.take s' l)=true/\q0)/\q1 - s' < q1 - s))/\((↑q1:Int)<=(↑s:Int)->true=r0))) ((1:Nat)<=q1/\q1<=(8:Nat))) l.length) (0:Int)) (↑l.length:Int)):=by kernel_rfl
theorem Vz (l:List Int):Sat Tryz.prog (al tyT) 80 [.c (.fz .int (l))] [] ⟨[],[.c (.bool (.atom ((rowF l))))],none,false⟩:=by
 refine aJ dU (WY l) Tryz.func80 (by decide) (by kernel_rfl) ?_
 rw [VL]
 (repeat' (first | refine And.intro ?_ ?_ | intro))
 all_goals try (grind [po,jK,kq,Q_,He,az,br])
 all_goals (refine ⟨0,?_⟩; (repeat' (first | refine And.intro ?_ ?_ | intro)))
 all_goals try (grind [po,jK,kq,Q_,He,az,br])
 all_goals (refine ⟨‹Nat› + 1,?_⟩; (repeat' (first | refine And.intro ?_ ?_ | intro)))
 all_goals grind [po,jK,kq,Q_,He,az,br]
theorem SB (a:List Int) (b:List Int) (r0:Bool):ck tyT kS (Od a b) Tryz.f31 [.c (.fz .int (a)),.c (.fz .int (b))] [] [.c (.bool (.atom (r0)))]=((fun (q1:Nat)=>(fun (q0:Int)=>a.length*(8:Nat)<=(140737488355328:Nat)->b.length*(8:Nat)<=(140737488355328:Nat)->(¬q0=(↑b.length:Int)->false=r0)/\(q0=(↑b.length:Int)->∃ (s0:Nat),(a=a/\b=b/\(0:Int)=(↑s0:Int))/\(s0<=q1/\q1=b.length/\List.take s0 a=List.take s0 b)/\∀ (s:Nat),(fun (q2:Prop)=>s<=q1/\q1=b.length/\List.take s a=List.take s b->((↑s:Int)<q0->(0:Int)<=(↑s:Int)/\(↑s:Int)<q0/\(0:Int)<=(↑s:Int)/\(↑s:Int)<(↑b.length:Int)/\(I64 (a.getD s (dflt Sh.int))->I64 (b.getD s (dflt Sh.int))->(¬q2->false=r0)/\(q2->I64 ((↑s:Int)+(1:Int))/\∃ (s':Nat),(a=a/\b=b/\(↑s:Int)+(1:Int)=(↑s':Int))/\(s' <= q1/\q1=b.length/\List.take s' a=List.take s' b)/\q1 - s' < q1 - s)))/\(q0<=(↑s:Int)->true=r0)) (a.getD s (dflt Sh.int)=b.getD s (dflt Sh.int)))) (↑a.length:Int)) a.length):=by kernel_rfl
theorem QC (a:List Int) (b:List Int):Sat Tryz.prog (al tyT) 31 [.c (.fz .int (a)),.c (.fz .int (b))] [] ⟨[],[.c (.bool (.atom ((decide (a=b)))))],none,false⟩:=by
 refine aJ dU (Od a b) Tryz.func31 (by decide) (by kernel_rfl) ?_
 rw [SB]
 (repeat' (first | refine And.intro ?_ ?_ | intro))
 all_goals try (grind [ax])
 all_goals (refine ⟨0,?_⟩; (repeat' (first | refine And.intro ?_ ?_ | intro)))
 all_goals try (grind [ax])
 all_goals (refine ⟨‹Nat› + 1,?_⟩; (repeat' (first | refine And.intro ?_ ?_ | intro)))
 all_goals first | exact vV (by grind) aG aG ae | grind
theorem QL (x:Int) (r0:Int):ck tyT kS [] Tryz.f29 [.c (.int (x))] [] [.c (.int (r0))]=((fun (q0:Option (den Sh.int))=>I64 x->((fun (j:Int)=>if j=(12:Int) then some (3:Int) else (fun (j:Int)=>if j=(11:Int) then some (3:Int) else (fun (j:Int)=>if j=(10:Int) then some (2:Int) else (fun (j:Int)=>if j=(9:Int) then some (2:Int) else (fun (j:Int)=>if j=(8:Int) then q0 else (fun (j:Int)=>if j=(7:Int) then q0 else (fun (j:Int)=>if j=(6:Int) then q0 else (fun (j:Int)=>if j=(5:Int) then q0 else (fun (j:Int)=>if j=(4:Int) then q0 else (fun (j:Int)=>if j=(3:Int) then q0 else (fun (j:Int)=>if j=(2:Int) then q0 else (fun (j:Int)=>if j=(1:Int) then q0 else (fun (_:Int)=>none) j) j) j) j) j) j) j) j) j) j) j) j) x).getD (dflt Sh.int)=r0) (some (1:Int))):=by kernel_rfl
theorem Sv (x:Int):Sat Tryz.prog (al tyT) 29 [.c (.int (x))] [] ⟨[],[.c (.int ((a_ x)))],none,false⟩:=by
 refine aJ dU [] Tryz.func29 (by decide) (by kernel_rfl) ?_
 rw [QL]
 intro _
 simp only [a_,nu]
 by_cases h:1<=x/\x<=12
 ·have h2:x=1\/x=2\/x=3\/x=4\/x=5\/x=6\/x=7\/x=8\/x=9\/x=10\/x=11\/x=12:=by omega
  rcases h2 with rfl | rfl | rfl | rfl | rfl | rfl | rfl | rfl | rfl | rfl | rfl | rfl <;> rfl
 ·have h1:¬ x=1:=by omega
  have h2:¬ x=2:=by omega
  have h3:¬ x=3:=by omega
  have h4:¬ x=4:=by omega
  have h5:¬ x=5:=by omega
  have h6:¬ x=6:=by omega
  have h7:¬ x=7:=by omega
  have h8:¬ x=8:=by omega
  have h9:¬ x=9:=by omega
  have h10:¬ x=10:=by omega
  have h11:¬ x=11:=by omega
  have h12:¬ x=12:=by omega
  simp [h1,h2,h3,h4,h5,h6,h7,h8,h9,h10,h11,h12,dflt]
theorem Tp (s:Span) (k:Int) (r0:Bool):ck tyT kS [] Tryz.f79 [.agg (cellsOf (.nm .span) s),.c (.int (k))] [] [.c (.bool (.atom (r0)))]=(I64 s.lo->I64 s.hi->I64 k->(decide (s.lo<=k) && decide (k<=s.hi))=r0):=by kernel_rfl
theorem Ws (s:Span) (k:Int):Sat Tryz.prog (al tyT) 79 [.agg (cellsOf (.nm .span) s),.c (.int (k))] [] ⟨[],[.c (.bool (.atom ((decide (s.lo<=k) && decide (k<=s.hi)))))],none,false⟩:=by
 refine aJ dU [] Tryz.func79 (by decide) (by kernel_rfl) ?_
 rw [Tp]
 grind
theorem Di (n:Int) (a:Int) (b:Int) (r0:Bool):ck tyT kS [] Tryz.f127 [.c (.int (n)),.c (.int (a)),.c (.int (b))] [] [.c (.bool (.atom (r0)))]=(I64 n->I64 a->I64 b->(decide (a<=n) && decide (n<=b))=r0):=by kernel_rfl
theorem EY (n:Int) (a:Int) (b:Int):Sat Tryz.prog (al tyT) 127 [.c (.int (n)),.c (.int (a)),.c (.int (b))] [] ⟨[],[.c (.bool (.atom ((bb n a b))))],none,false⟩:=by
 refine aJ dU [] Tryz.func127 (by decide) (by kernel_rfl) ?_
 rw [Di]
 grind [bb]
theorem We (n:Int) (a:Int) (b:Int) (r0:Bool):ck tyT kS [] Tryz.f155 [.c (.int (n)),.c (.int (a)),.c (.int (b))] [] [.c (.bool (.atom (r0)))]=(I64 n->I64 a->I64 b->(decide (a<=n) && decide (n<=b))=r0):=by kernel_rfl
theorem Ui (n:Int) (a:Int) (b:Int):Sat Tryz.prog (al tyT) 155 [.c (.int (n)),.c (.int (a)),.c (.int (b))] [] ⟨[],[.c (.bool (.atom ((bb n a b))))],none,false⟩:=by
 refine aJ dU [] Tryz.func155 (by decide) (by kernel_rfl) ?_
 rw [We]
 grind [bb]
theorem VT (n:Int) (a:Int) (b:Int) (r0:Bool):ck tyT kS [] Tryz.f30 [.c (.int (n)),.c (.int (a)),.c (.int (b))] [] [.c (.bool (.atom (r0)))]=(I64 n->I64 a->I64 b->(decide (a<=n) && decide (n<=b))=r0):=by kernel_rfl
theorem Uq (n:Int) (a:Int) (b:Int):Sat Tryz.prog (al tyT) 30 [.c (.int (n)),.c (.int (a)),.c (.int (b))] [] ⟨[],[.c (.bool (.atom ((bb n a b))))],none,false⟩:=by
 refine aJ dU [] Tryz.func30 (by decide) (by kernel_rfl) ?_
 rw [VT]
 grind [bb]
theorem xI (x:Sess) (r0:Int):ck tyT kS [] Tryz.f100 [.agg (cellsOf (.nm .sess) x)] [] [.c (.int (r0))]=(I64 x.client->I64 x.seq->I64 x.last.code->I64 x.last.n->x.client=r0):=by kernel_rfl
theorem yj (x:Sess):Sat Tryz.prog (al tyT) 100 [.agg (cellsOf (.nm .sess) x)] [] ⟨[],[.c (.int ((x.client)))],none,false⟩:=by
 refine aJ dU [] Tryz.func100 (by decide) (by kernel_rfl) ?_
 rw [xI]
 grind
theorem LR (x:Opn) (r0:Int):ck tyT kS [] Tryz.f132 [.agg (cellsOf (.nm .opn) x)] [] [.c (.int (r0))]=(I64 x.set->I64 x.client->x.set=r0):=by kernel_rfl
theorem My (x:Opn):Sat Tryz.prog (al tyT) 132 [.agg (cellsOf (.nm .opn) x)] [] ⟨[],[.c (.int ((x.set)))],none,false⟩:=by
 refine aJ dU [] Tryz.func132 (by decide) (by kernel_rfl) ?_
 rw [LR]
 grind
theorem Rj (x:Snap) (r0:Int):ck tyT kS [] Tryz.f170 [.agg (cellsOf (.nm .snap) x)] [] [.c (.int (r0))]=(I64 x.id->I64 x.set->x.chunks.length*(8:Nat)<=(140737488355328:Nat)->x.tag.b.length<=(140737488355328:Nat)->x.id=r0):=by kernel_rfl
theorem Ru (x:Snap):Sat Tryz.prog (al tyT) 170 [.agg (cellsOf (.nm .snap) x)] [] ⟨[],[.c (.int ((x.id)))],none,false⟩:=by
 refine aJ dU [] Tryz.func170 (by decide) (by kernel_rfl) ?_
 rw [Rj]
 grind
theorem CS (e:Int) (r0:Reply):ck tyT kS [] Tryz.f62 [.c (.int (e))] [] [.agg (cellsOf (.nm .reply) r0)]=(I64 e->e=r0.code/\(0:Int)=r0.n):=by kernel_rfl
theorem Bg (e:Int):Sat Tryz.prog (al tyT) 62 [.c (.int (e))] [] ⟨[],[.agg (cellsOf (.nm .reply) (⟨e,0⟩))],none,false⟩:=by
 refine aJ dU [] Tryz.func62 (by decide) (by kernel_rfl) ?_
 rw [CS]
 grind
def DP:cO:=(bq 62 (bm (ah (kC cI) aH) aI fun (e,_) (_)=>⟨[],[.agg (cellsOf (.nm .reply) (⟨e,0⟩))],none,false⟩) (bq 170 (bm (ah (kT (.nm .snap)) aH) aI fun (x,_) (_)=>⟨[],[.c (.int ((x.id)))],none,false⟩) (bq 132 (bm (ah (kT (.nm .opn)) aH) aI fun (x,_) (_)=>⟨[],[.c (.int ((x.set)))],none,false⟩) (bq 100 (bm (ah (kT (.nm .sess)) aH) aI fun (x,_) (_)=>⟨[],[.c (.int ((x.client)))],none,false⟩) (bq 30 (bm (ah (kC cI) (ah (kC cI) (ah (kC cI) aH))) aI fun (n,a,b,_) (_)=>⟨[],[.c (.bool (.atom ((bb n a b))))],none,false⟩) (bq 155 (bm (ah (kC cI) (ah (kC cI) (ah (kC cI) aH))) aI fun (n,a,b,_) (_)=>⟨[],[.c (.bool (.atom ((bb n a b))))],none,false⟩) (bq 127 (bm (ah (kC cI) (ah (kC cI) (ah (kC cI) aH))) aI fun (n,a,b,_) (_)=>⟨[],[.c (.bool (.atom ((bb n a b))))],none,false⟩) (bq 79 (bm (ah (kT (.nm .span)) (ah (kC cI) aH)) aI fun (s,k,_) (_)=>⟨[],[.c (.bool (.atom ((decide (s.lo<=k) && decide (k<=s.hi)))))],none,false⟩) (bq 29 (bm (ah (kC cI) aH) aI fun (x,_) (_)=>⟨[],[.c (.int ((a_ x)))],none,false⟩) (bq 31 (bm (ah (kC (cL .int)) (ah (kC (cL .int)) aH)) aI fun (a,b,_) (_)=>⟨[],[.c (.bool (.atom ((decide (a=b)))))],none,false⟩) (bq 80 (bm (ah (kC (cL .int)) aH) aI fun (l,_) (_)=>⟨[],[.c (.bool (.atom ((rowF l))))],none,false⟩) (bq 39 (bm (ah (kC cI) aH) aI fun (k,_) (_)=>⟨[],[.c (.bool (.atom ((cH k))))],none,false⟩) kS))))))))))))
theorem oa:aW Tryz.prog (al tyT) DP:=(au (av (ab (aq ay) ai) aj fun (e,_) (_) _=>Bg e ) (au (av (ab aZ ai) aj fun (x,_) (_) _=>Ru x ) (au (av (ab aZ ai) aj fun (x,_) (_) _=>My x ) (au (av (ab aZ ai) aj fun (x,_) (_) _=>yj x ) (au (av (ab (aq ay) (ab (aq ay) (ab (aq ay) ai))) aj fun (n,a,b,_) (_) _=>Uq n a b ) (au (av (ab (aq ay) (ab (aq ay) (ab (aq ay) ai))) aj fun (n,a,b,_) (_) _=>Ui n a b ) (au (av (ab (aq ay) (ab (aq ay) (ab (aq ay) ai))) aj fun (n,a,b,_) (_) _=>EY n a b ) (au (av (ab aZ (ab (aq ay) ai)) aj fun (s,k,_) (_) _=>Ws s k ) (au (av (ab (aq ay) ai) aj fun (x,_) (_) _=>Sv x ) (au (av (ab (aq aY) (ab (aq aY) ai)) aj fun (a,b,_) (_) _=>QC a b ) (au (av (ab (aq aY) ai) aj fun (l,_) (_) _=>Vz l ) (au (av (ab (aq ay) ai) aj fun (k,_) (_) _=>JN k ) dU))))))))))))
theorem dY {n:Int} (h1:-9223372036854775808<=n) (h2:n<=9223372036854775807):I64 n:=⟨h1,h2⟩
def ao {α:Type} (key:α->Int) (want:Int) (l:List α):Int:=match l.findIdx? (fun x=>decide (key x=want)) with
 | some i=>(i:Int)
 | none=>-1
section
variable {α:Type} {key:α->Int} {want:Int} {l:List α} {k:Nat} {x:α}
theorem kv:ao key want l = -1↔∀ x ∈ l,¬ key x=want:=by
 unfold ao
 cases h:l.findIdx? (fun x=>decide (key x=want)) with
 | none=>simpa using h
 | some i=>
  rw [List.findIdx?_eq_some_iff_getElem] at h
  obtain ⟨h1,h2,_⟩:=h
  simp only [decide_eq_true_eq] at h2
  constructor
  ·intro h; dsimp only at h; omega
  ·intro h; exact absurd h2 (h _ (List.getElem_mem h1))
theorem jI:ao key want (l.take 0) = -1:=rfl
theorem gK (h:ao key want (l.take k) = -1) (hx:l[k]? = some x) (hn:¬ key x=want):ao key want (l.take (k+1)) = -1:=by
 rw [kv] at h ⊢
 rw [ax hx]
 intro y hy
 rcases List.mem_append.1 hy with hy | hy
 ·exact h y hy
 ·rw [List.mem_singleton] at hy; subst hy; exact hn
theorem gu (h:ao key want (l.take k) = -1) (hk:l.length<=k):-1=ao key want l:=by
 rw [List.take_of_length_le hk] at h; exact h.symm
theorem fy (h:ao key want (l.take k) = -1) (hx:l[k]? = some x) (he:key x=want):(k:Int)=ao key want l:=by
 have:l.findIdx? (fun x=>decide (key x=want))=some k:=by
  rw [kv] at h
  obtain ⟨hk,rfl⟩:=List.getElem?_eq_some_iff.1 hx
  rw [List.findIdx?_eq_some_iff_getElem]
  refine ⟨hk,decide_eq_true he,fun j hj=>?_⟩
  have:=h l[j] (by rw [List.mem_take_iff_getElem]; exact ⟨j,by omega,rfl⟩)
  simpa using this
 rw [ao,this]
end
def oQ (l:List Sess) (want:Int):List (Nat × LI):=[(2,{ σ:=Nat,F:=fun k=>([(1,one (.int (want))),(2,one (.fn 100 [] [])),(9,one (.fz (.nm .sess) (l))),(10,one (.int (l).length)),(11,one (.int k))],[]),J:=fun k=>k<=l.length/\ao Sess.client want (l.take k) = -1,μ:=fun k=>(l).length - k })]
def pn (l:List Opn) (want:Int):List (Nat × LI):=[(2,{ σ:=Nat,F:=fun k=>([(1,one (.int (want))),(2,one (.fn 132 [] [])),(9,one (.fz (.nm .opn) (l))),(10,one (.int (l).length)),(11,one (.int k))],[]),J:=fun k=>k<=l.length/\ao Opn.set want (l.take k) = -1,μ:=fun k=>(l).length - k })]
def ov (l:List Snap) (want:Int):List (Nat × LI):=[(2,{ σ:=Nat,F:=fun k=>([(1,one (.int (want))),(2,one (.fn 170 [] [])),(9,one (.fz (.nm .snap) (l))),(10,one (.int (l).length)),(11,one (.int k))],[]),J:=fun k=>k<=l.length/\ao Snap.id want (l.take k) = -1,μ:=fun k=>(l).length - k })]
theorem tO (l:List Sess) (want:Int) (r0:Int):ck tyT DP (oQ l want) Tryz.f99 [.c (.fz (.nm .sess) (l)),.c (.int (want)),.c (.fn 100 [] [])] [] [.c (.int (r0))]=((fun (q1:Int)=>(fun (q0:Nat)=>l.length*(32:Nat)<=(140737488355328:Nat)->I64 want->∃ (s0:Nat),(want=want/\l=l/\(↑l.length:Int)=(↑q0:Int)/\(0:Int)=(↑s0:Int))/\(s0<=q0/\ao Sess.client want (List.take s0 l) = -q1)/\∀ (s:Nat),s<=q0/\ao Sess.client want (List.take s l) = -q1->((↑s:Int)<(↑q0:Int)->(0:Int)<=(↑s:Int)/\(↑s:Int)<(↑l.length:Int)/\∀ (x:Sess),l[s]? = some x->I64 x.client->I64 x.seq->I64 x.last.code->I64 x.last.n->I64 x.client->(x.client=want->(↑s:Int)=r0)/\(¬x.client=want->I64 ((↑s:Int)+q1)/\∃ (s':Nat),(want=want/\l=l/\(↑q0:Int)=(↑q0:Int)/\(↑s:Int)+q1=(↑s':Int))/\(s' <= q0/\ao Sess.client want (List.take s' l) = -q1)/\q0 - s' < q0 - s))/\((↑q0:Int)<=(↑s:Int) -> -q1=r0)) l.length) (1:Int)):=by kernel_rfl
theorem vX (l:List Sess) (want:Int):Sat Tryz.prog (al tyT) 99 [.c (.fz (.nm .sess) (l)),.c (.int (want)),.c (.fn 100 [] [])] [] ⟨[],[.c (.int ((ao Sess.client want l)))],none,false⟩:=by
 refine aJ oa (oQ l want) Tryz.func99 (by decide) (by kernel_rfl) ?_
 rw [tO]
 iterate 3 ((all_goals (repeat' (first | with_reducible apply bu | with_reducible refine bw ?_ | intro))); (all_goals try (first | exact bT | exact (jI (key:=Sess.client)) | exact (fy (key:=Sess.client) ae ae ae) | exact (gu (key:=Sess.client) ae aG) | exact (gK (key:=Sess.client) ae ae ae))); all_goals try first | refine ⟨‹Nat› + 1,?_⟩ | refine ⟨0,?_⟩)
theorem wA (l:List Opn) (want:Int) (r0:Int):ck tyT DP (pn l want) Tryz.f185 [.c (.fz (.nm .opn) (l)),.c (.int (want)),.c (.fn 132 [] [])] [] [.c (.int (r0))]=((fun (q1:Int)=>(fun (q0:Nat)=>l.length*(16:Nat)<=(140737488355328:Nat)->I64 want->∃ (s0:Nat),(want=want/\l=l/\(↑l.length:Int)=(↑q0:Int)/\(0:Int)=(↑s0:Int))/\(s0<=q0/\ao Opn.set want (List.take s0 l) = -q1)/\∀ (s:Nat),s<=q0/\ao Opn.set want (List.take s l) = -q1->((↑s:Int)<(↑q0:Int)->(0:Int)<=(↑s:Int)/\(↑s:Int)<(↑l.length:Int)/\∀ (x:Opn),l[s]? = some x->I64 x.set->I64 x.client->I64 x.set->(x.set=want->(↑s:Int)=r0)/\(¬x.set=want->I64 ((↑s:Int)+q1)/\∃ (s':Nat),(want=want/\l=l/\(↑q0:Int)=(↑q0:Int)/\(↑s:Int)+q1=(↑s':Int))/\(s' <= q0/\ao Opn.set want (List.take s' l) = -q1)/\q0 - s' < q0 - s))/\((↑q0:Int)<=(↑s:Int) -> -q1=r0)) l.length) (1:Int)):=by kernel_rfl
theorem wy (l:List Opn) (want:Int):Sat Tryz.prog (al tyT) 185 [.c (.fz (.nm .opn) (l)),.c (.int (want)),.c (.fn 132 [] [])] [] ⟨[],[.c (.int ((ao Opn.set want l)))],none,false⟩:=by
 refine aJ oa (pn l want) Tryz.func185 (by decide) (by kernel_rfl) ?_
 rw [wA]
 iterate 3 ((all_goals (repeat' (first | with_reducible apply bu | with_reducible refine bw ?_ | intro))); (all_goals try (first | exact bT | exact (jI (key:=Opn.set)) | exact (fy (key:=Opn.set) ae ae ae) | exact (gu (key:=Opn.set) ae aG) | exact (gK (key:=Opn.set) ae ae ae))); all_goals try first | refine ⟨‹Nat› + 1,?_⟩ | refine ⟨0,?_⟩)
theorem vP (l:List Snap) (want:Int) (r0:Int):ck tyT DP (ov l want) Tryz.f174 [.c (.fz (.nm .snap) (l)),.c (.int (want)),.c (.fn 170 [] [])] [] [.c (.int (r0))]=((fun (q1:Int)=>(fun (q0:Nat)=>l.length*(64:Nat)<=(140737488355328:Nat)->I64 want->∃ (s0:Nat),(want=want/\l=l/\(↑l.length:Int)=(↑q0:Int)/\(0:Int)=(↑s0:Int))/\(s0<=q0/\ao Snap.id want (List.take s0 l) = -q1)/\∀ (s:Nat),s<=q0/\ao Snap.id want (List.take s l) = -q1->((↑s:Int)<(↑q0:Int)->(0:Int)<=(↑s:Int)/\(↑s:Int)<(↑l.length:Int)/\∀ (x:Snap),l[s]? = some x->I64 x.id->I64 x.set->x.chunks.length*(8:Nat)<=(140737488355328:Nat)->x.tag.b.length<=(140737488355328:Nat)->I64 x.id->(x.id=want->(↑s:Int)=r0)/\(¬x.id=want->I64 ((↑s:Int)+q1)/\∃ (s':Nat),(want=want/\l=l/\(↑q0:Int)=(↑q0:Int)/\(↑s:Int)+q1=(↑s':Int))/\(s' <= q0/\ao Snap.id want (List.take s' l) = -q1)/\q0 - s' < q0 - s))/\((↑q0:Int)<=(↑s:Int) -> -q1=r0)) l.length) (1:Int)):=by kernel_rfl
theorem vI (l:List Snap) (want:Int):Sat Tryz.prog (al tyT) 174 [.c (.fz (.nm .snap) (l)),.c (.int (want)),.c (.fn 170 [] [])] [] ⟨[],[.c (.int ((ao Snap.id want l)))],none,false⟩:=by
 refine aJ oa (ov l want) Tryz.func174 (by decide) (by kernel_rfl) ?_
 rw [vP]
 iterate 3 ((all_goals (repeat' (first | with_reducible apply bu | with_reducible refine bw ?_ | intro))); (all_goals try (first | exact bT | exact (jI (key:=Snap.id)) | exact (fy (key:=Snap.id) ae ae ae) | exact (gu (key:=Snap.id) ae aG) | exact (gK (key:=Snap.id) ae ae ae))); all_goals try first | refine ⟨‹Nat› + 1,?_⟩ | refine ⟨0,?_⟩)
def wi:cO:=(bq 174 (bm (ah (kC (cL (.nm .snap))) (ah (kC cI) (ah (kC (ql 170 [] [])) aH))) aI fun (l,want,_,_) (_)=>⟨[],[.c (.int ((ao Snap.id want l)))],none,false⟩) (bq 185 (bm (ah (kC (cL (.nm .opn))) (ah (kC cI) (ah (kC (ql 132 [] [])) aH))) aI fun (l,want,_,_) (_)=>⟨[],[.c (.int ((ao Opn.set want l)))],none,false⟩) (bq 99 (bm (ah (kC (cL (.nm .sess))) (ah (kC cI) (ah (kC (ql 100 [] [])) aH))) aI fun (l,want,_,_) (_)=>⟨[],[.c (.int ((ao Sess.client want l)))],none,false⟩) DP)))
theorem hY:aW Tryz.prog (al tyT) wi:=(au (av (ab (aq aY) (ab (aq ay) (ab (aq dw) ai))) aj fun (l,want,_,_) (_) _=>vI l want ) (au (av (ab (aq aY) (ab (aq ay) (ab (aq dw) ai))) aj fun (l,want,_,_) (_) _=>wy l want ) (au (av (ab (aq aY) (ab (aq ay) (ab (aq dw) ai))) aj fun (l,want,_,_) (_) _=>vX l want ) oa)))
theorem Kv {n r m:Nat} (h:bl n+1=bl r+m) (hr:128<=r):bl n+1=bl (r / 128)+(m+1):=by
 have:=ka (n:=r) (by omega); omega
theorem ML {n r m:Nat} (h:bl n+1=bl r+m) (hn:n<18446744073709551616):m<=10:=by
 have:=pD hn; have:=gA r; omega
theorem IM {n r m:Nat} (h:bl n+1=bl r+m) (hr:r<128):m=bl n:=by
 have:=gZ hr; omega
section
variable {α:Type} {key:α->Int} {most:Int} {l:List α} {k:Nat} {x:α}
theorem Ip (h:az key most 0 (l.take k)=true) (hx:l[k]? = some x) (hb:bb (key x) (br key 0 (l.take k)+1) most=true):az key most 0 (l.take (k+1))=true:=
 jj h hx (by have:=qk hb; omega) (qk hb).2
theorem Io (hx:l[k]? = some x) (hb:bb (key x) (br key 0 (l.take k)+1) most=false):false=az key most 0 l:=
 (nq hx (by have:=inF hb; omega)).symm
theorem Iq (h:az key most 0 (l.take k)=true) (hk:l.length<=k):true=az key most 0 l:=(jh h hk).symm
theorem DR (hx:l[k]? = some x) (h0:0<=br key 0 (l.take k)) (hb:bb (key x) (br key 0 (l.take k)+1) most=true):0<=br key 0 (l.take (k+1)):=by
 have:=qk hb; rw [<- ez hx]; omega
theorem Ef (hx:l[k]? = some x) (hb:bb (key x) (br key 0 (l.take k)+1) most=true) (hm:most<=1048576):br key 0 (l.take (k+1))<=1048576:=by
 have:=qk hb; rw [<- ez hx]; omega
variable {p:α->Bool}
theorem Df (hx:l[k]? = some x) (hp:p x=false):false=l.all p:=(Gv hx hp).symm
theorem IU (h:(l.take k).all p=true) (hk:l.length<=k):true=l.all p:=(GP h hk).symm
end
def Ok (n:U64):List (Nat × LI):=[(2,{ σ:=Nat × Nat,F:=fun s=>([(0,one (.u64 s.1)),(3,one (.int s.2))],[]),J:=fun s=>s.1<18446744073709551616/\bl n.n+1=bl s.1+s.2,μ:=fun s=>s.1 })]
def nr (l:List Sess) (most:Int):List (Nat × LI):=[(3,{ σ:=Nat,F:=fun k=>([(1,one (.int (most))),(2,one (.fn 100 [] [])),(7,one (.int (br Sess.client 0 (l.take k)))),(10,one (.fz (.nm .sess) (l))),(11,one (.int (l).length)),(12,one (.int k))],[]),J:=fun k=>k<=l.length/\az Sess.client most 0 (l.take k)=true/\0<=br Sess.client 0 (l.take k)/\br Sess.client 0 (l.take k)<=1048576,μ:=fun k=>(l).length - k })]
def nt (l:List Opn) (most:Int):List (Nat × LI):=[(3,{ σ:=Nat,F:=fun k=>([(1,one (.int (most))),(2,one (.fn 132 [] [])),(7,one (.int (br Opn.set 0 (l.take k)))),(10,one (.fz (.nm .opn) (l))),(11,one (.int (l).length)),(12,one (.int k))],[]),J:=fun k=>k<=l.length/\az Opn.set most 0 (l.take k)=true/\0<=br Opn.set 0 (l.take k)/\br Opn.set 0 (l.take k)<=1048576,μ:=fun k=>(l).length - k })]
def ns (l:List Snap) (most:Int):List (Nat × LI):=[(3,{ σ:=Nat,F:=fun k=>([(1,one (.int (most))),(2,one (.fn 170 [] [])),(7,one (.int (br Snap.id 0 (l.take k)))),(10,one (.fz (.nm .snap) (l))),(11,one (.int (l).length)),(12,one (.int k))],[]),J:=fun k=>k<=l.length/\az Snap.id most 0 (l.take k)=true/\0<=br Snap.id 0 (l.take k)/\br Snap.id 0 (l.take k)<=1048576,μ:=fun k=>(l).length - k })]
theorem RU (n:U64) (r0:Int):ck tyT wi (Ok n) Tryz.f166 [.c (.u64 (n).n)] [] [.c (.int (r0))]=((fun (q0:Nat)=>n.n<(18446744073709551616:Nat)->∃ (s0:Nat × Nat),(n.n=s0.fst/\(1:Int)=(↑s0.snd:Int))/\(s0.fst<(18446744073709551616:Nat)/\q0=bl s0.fst+s0.snd)/\∀ (s:Nat × Nat),s.fst<(18446744073709551616:Nat)/\q0=bl s.fst+s.snd->((↑(128:Nat):Int)<=(↑s.fst:Int)->(7:Nat)<(64:Nat)/\I64 ((↑s.snd:Int)+(1:Int))/\∃ (s':Nat × Nat),(s.fst / (2:Nat) ^ (7:Nat)=s'.fst/\(↑s.snd:Int)+(1:Int)=(↑s'.snd:Int))/\(s'.fst<(18446744073709551616:Nat)/\q0=bl s'.fst+s'.snd)/\s'.fst<s.fst)/\((↑s.fst:Int)<(↑(128:Nat):Int)->(↑s.snd:Int)=r0)) (bl n.n+(1:Nat))):=by kernel_rfl
theorem Pj (n:U64):Sat Tryz.prog (al tyT) 166 [.c (.u64 (n).n)] [] ⟨[],[.c (.int (((bl n.n:Int))))],none,false⟩:=by
 refine aJ hY (Ok n) Tryz.func166 (by decide) (by kernel_rfl) ?_
 rw [RU]
 intro hn
 refine ⟨(n.n,1),⟨rfl,rfl⟩,⟨hn,rfl⟩,fun s hs=>⟨fun h=>?_,fun h=>?_⟩⟩
 ·have h2:=Kv hs.2 (by omega)
  have h3:=ML hs.2 hn
  exact ⟨by omega,by constructor <;> omega,(s.1 / 128,s.2+1),⟨rfl,by simp⟩,⟨by show s.1 / 128<_; omega,h2⟩,by show s.1 / 128<s.1; omega⟩
 ·exact congrArg Int.ofNat (IM hs.2 aG)
theorem tr (l:List Sess) (most:Int) (r0:Bool):ck tyT wi (nr l most) Tryz.f128 [.c (.fz (.nm .sess) (l)),.c (.int (most)),.c (.fn 100 [] [])] [] [.c (.bool (.atom (r0)))]=((fun (q1:Nat)=>(fun (q0:Int)=>l.length*(32:Nat)<=(140737488355328:Nat)->I64 most->∃ (s0:Nat),(fun (q2:Int)=>(most=most/\q0=q2/\l=l/\(↑l.length:Int)=(↑q1:Int)/\q0=(↑s0:Int))/\(s0<=q1/\az Sess.client most q0 (List.take s0 l)=true/\q0<=q2/\q2<=(1048576:Int))/\∀ (s:Nat),(fun (q3:Int)=>s<=q1/\az Sess.client most q0 (List.take s l)=true/\q0<=q3/\q3<=(1048576:Int)->((↑s:Int)<(↑q1:Int)->q0<=(↑s:Int)/\(↑s:Int)<(↑l.length:Int)/\∀ (x:Sess),(fun (q4:Bool)=>l[s]? = some x->I64 x.client->I64 x.seq->I64 x.last.code->I64 x.last.n->I64 x.client->I64 (q3+(1:Int))/\(q4=false->false=r0)/\(q4=true->I64 x.client->I64 ((↑s:Int)+(1:Int))/\∃ (s':Nat),(fun (q5:Int)=>(most=most/\x.client=q5/\l=l/\(↑q1:Int)=(↑q1:Int)/\(↑s:Int)+(1:Int)=(↑s':Int))/\(s' <= q1/\az Sess.client most q0 (List.take s' l)=true/\q0<=q5/\q5<=(1048576:Int))/\q1 - s' < q1 - s) (br Sess.client q0 (List.take s' l)))) (bb x.client (q3+(1:Int)) most))/\((↑q1:Int)<=(↑s:Int)->true=r0)) (br Sess.client q0 (List.take s l))) (br Sess.client q0 (List.take s0 l))) (0:Int)) l.length):=by kernel_rfl
theorem rQ (l:List Sess) (most:Int) (h0:most<=1048576):Sat Tryz.prog (al tyT) 128 [.c (.fz (.nm .sess) (l)),.c (.int (most)),.c (.fn 100 [] [])] [] ⟨[most<=1048576],[.c (.bool (.atom ((az Sess.client most 0 l))))],none,false⟩:=by
 refine aJ hY (nr l most) Tryz.func128 (by decide) (by kernel_rfl) ?_
 rw [tr]
 iterate 3 ((all_goals (repeat' (first | with_reducible apply bu | with_reducible refine bw ?_ | intro))); (all_goals try (first | exact bT | exact (Ip (key:=Sess.client) ae ae ae) | exact (Io (key:=Sess.client) ae ae) | exact (Iq (key:=Sess.client) ae aG) | exact (ez (key:=Sess.client) ae) | exact (DR (key:=Sess.client) ae ae ae) | exact (Ef (key:=Sess.client) ae ae ae) | exact rfl | exact Int.le_refl _ | exact (show (0:Int)<=1048576 by omega))); all_goals try first | refine ⟨‹Nat› + 1,?_⟩ | refine ⟨0,?_⟩)
theorem rT (l:List Opn) (most:Int) (r0:Bool):ck tyT wi (nt l most) Tryz.f131 [.c (.fz (.nm .opn) (l)),.c (.int (most)),.c (.fn 132 [] [])] [] [.c (.bool (.atom (r0)))]=((fun (q1:Nat)=>(fun (q0:Int)=>l.length*(16:Nat)<=(140737488355328:Nat)->I64 most->∃ (s0:Nat),(fun (q2:Int)=>(most=most/\q0=q2/\l=l/\(↑l.length:Int)=(↑q1:Int)/\q0=(↑s0:Int))/\(s0<=q1/\az Opn.set most q0 (List.take s0 l)=true/\q0<=q2/\q2<=(1048576:Int))/\∀ (s:Nat),(fun (q3:Int)=>s<=q1/\az Opn.set most q0 (List.take s l)=true/\q0<=q3/\q3<=(1048576:Int)->((↑s:Int)<(↑q1:Int)->q0<=(↑s:Int)/\(↑s:Int)<(↑l.length:Int)/\∀ (x:Opn),(fun (q4:Bool)=>l[s]? = some x->I64 x.set->I64 x.client->I64 x.set->I64 (q3+(1:Int))/\(q4=false->false=r0)/\(q4=true->I64 x.set->I64 ((↑s:Int)+(1:Int))/\∃ (s':Nat),(fun (q5:Int)=>(most=most/\x.set=q5/\l=l/\(↑q1:Int)=(↑q1:Int)/\(↑s:Int)+(1:Int)=(↑s':Int))/\(s' <= q1/\az Opn.set most q0 (List.take s' l)=true/\q0<=q5/\q5<=(1048576:Int))/\q1 - s' < q1 - s) (br Opn.set q0 (List.take s' l)))) (bb x.set (q3+(1:Int)) most))/\((↑q1:Int)<=(↑s:Int)->true=r0)) (br Opn.set q0 (List.take s l))) (br Opn.set q0 (List.take s0 l))) (0:Int)) l.length):=by kernel_rfl
theorem sO (l:List Opn) (most:Int) (h0:most<=1048576):Sat Tryz.prog (al tyT) 131 [.c (.fz (.nm .opn) (l)),.c (.int (most)),.c (.fn 132 [] [])] [] ⟨[most<=1048576],[.c (.bool (.atom ((az Opn.set most 0 l))))],none,false⟩:=by
 refine aJ hY (nt l most) Tryz.func131 (by decide) (by kernel_rfl) ?_
 rw [rT]
 iterate 3 ((all_goals (repeat' (first | with_reducible apply bu | with_reducible refine bw ?_ | intro))); (all_goals try (first | exact bT | exact (Ip (key:=Opn.set) ae ae ae) | exact (Io (key:=Opn.set) ae ae) | exact (Iq (key:=Opn.set) ae aG) | exact (ez (key:=Opn.set) ae) | exact (DR (key:=Opn.set) ae ae ae) | exact (Ef (key:=Opn.set) ae ae ae) | exact rfl | exact Int.le_refl _ | exact (show (0:Int)<=1048576 by omega))); all_goals try first | refine ⟨‹Nat› + 1,?_⟩ | refine ⟨0,?_⟩)
theorem rL (l:List Snap) (most:Int) (r0:Bool):ck tyT wi (ns l most) Tryz.f169 [.c (.fz (.nm .snap) (l)),.c (.int (most)),.c (.fn 170 [] [])] [] [.c (.bool (.atom (r0)))]=((fun (q1:Nat)=>(fun (q0:Int)=>l.length*(64:Nat)<=(140737488355328:Nat)->I64 most->∃ (s0:Nat),(fun (q2:Int)=>(most=most/\q0=q2/\l=l/\(↑l.length:Int)=(↑q1:Int)/\q0=(↑s0:Int))/\(s0<=q1/\az Snap.id most q0 (List.take s0 l)=true/\q0<=q2/\q2<=(1048576:Int))/\∀ (s:Nat),(fun (q3:Int)=>s<=q1/\az Snap.id most q0 (List.take s l)=true/\q0<=q3/\q3<=(1048576:Int)->((↑s:Int)<(↑q1:Int)->q0<=(↑s:Int)/\(↑s:Int)<(↑l.length:Int)/\∀ (x:Snap),(fun (q4:Int)=>l[s]? = some x->I64 x.id->I64 x.set->x.chunks.length*(8:Nat)<=(140737488355328:Nat)->x.tag.b.length<=(140737488355328:Nat)->I64 x.id->I64 q4/\(bb x.id q4 most=false->false=r0)/\(bb x.id q4 most=true->I64 x.id->I64 ((↑s:Int)+(1:Int))/\∃ (s':Nat),(fun (q5:Int)=>(most=most/\x.id=q5/\l=l/\(↑q1:Int)=(↑q1:Int)/\(↑s:Int)+(1:Int)=(↑s':Int))/\(s' <= q1/\az Snap.id most q0 (List.take s' l)=true/\q0<=q5/\q5<=(1048576:Int))/\q1 - s' < q1 - s) (br Snap.id q0 (List.take s' l)))) (q3+(1:Int)))/\((↑q1:Int)<=(↑s:Int)->true=r0)) (br Snap.id q0 (List.take s l))) (br Snap.id q0 (List.take s0 l))) (0:Int)) l.length):=by kernel_rfl
theorem rY (l:List Snap) (most:Int) (h0:most<=1048576):Sat Tryz.prog (al tyT) 169 [.c (.fz (.nm .snap) (l)),.c (.int (most)),.c (.fn 170 [] [])] [] ⟨[most<=1048576],[.c (.bool (.atom ((az Snap.id most 0 l))))],none,false⟩:=by
 refine aJ hY (ns l most) Tryz.func169 (by decide) (by kernel_rfl) ?_
 rw [rL]
 iterate 3 ((all_goals (repeat' (first | with_reducible apply bu | with_reducible refine bw ?_ | intro))); (all_goals try (first | exact bT | exact (Ip (key:=Snap.id) ae ae ae) | exact (Io (key:=Snap.id) ae ae) | exact (Iq (key:=Snap.id) ae aG) | exact (ez (key:=Snap.id) ae) | exact (DR (key:=Snap.id) ae ae ae) | exact (Ef (key:=Snap.id) ae ae ae) | exact rfl | exact Int.le_refl _ | exact (show (0:Int)<=1048576 by omega))); all_goals try first | refine ⟨‹Nat› + 1,?_⟩ | refine ⟨0,?_⟩)
theorem RA (x:Sess) (r0:Bool):ck tyT wi [] Tryz.f130 [.agg (cellsOf (.nm .sess) x)] [] [.c (.bool (.atom (r0)))]=(I64 x.client->I64 x.seq->I64 x.last.code->I64 x.last.n->(bb x.seq (0:Int) (1048576:Int) && bb x.last.code (0:Int) (99:Int) && bb x.last.n (0:Int) (1048576:Int))=r0):=by kernel_rfl
theorem Pz (x:Sess):Sat Tryz.prog (al tyT) 130 [.agg (cellsOf (.nm .sess) x)] [] ⟨[],[.c (.bool (.atom ((bn x))))],none,false⟩:=by
 refine aJ hY [] Tryz.func130 (by decide) (by kernel_rfl) ?_
 rw [RA]
 grind [bn,bb]
theorem RV (x:Opn) (r0:Bool):ck tyT wi [] Tryz.f134 [.agg (cellsOf (.nm .opn) x)] [] [.c (.bool (.atom (r0)))]=(I64 x.set->I64 x.client->bb x.client (1:Int) (8:Int)=r0):=by kernel_rfl
theorem Qi (x:Opn):Sat Tryz.prog (al tyT) 134 [.agg (cellsOf (.nm .opn) x)] [] ⟨[],[.c (.bool (.atom ((bp x))))],none,false⟩:=by
 refine aJ hY [] Tryz.func134 (by decide) (by kernel_rfl) ?_
 rw [RV]
 grind [bp,bb]
def rX:cO:=(bq 134 (bm (ah (kT (.nm .opn)) aH) aI fun (x,_) (_)=>⟨[],[.c (.bool (.atom ((bp x))))],none,false⟩) (bq 130 (bm (ah (kT (.nm .sess)) aH) aI fun (x,_) (_)=>⟨[],[.c (.bool (.atom ((bn x))))],none,false⟩) (bq 169 (bm (ah (kC (cL (.nm .snap))) (ah (kC cI) (ah (kC (ql 170 [] [])) aH))) aI fun (l,most,_,_) (_)=>⟨[most<=1048576],[.c (.bool (.atom ((az Snap.id most 0 l))))],none,false⟩) (bq 131 (bm (ah (kC (cL (.nm .opn))) (ah (kC cI) (ah (kC (ql 132 [] [])) aH))) aI fun (l,most,_,_) (_)=>⟨[most<=1048576],[.c (.bool (.atom ((az Opn.set most 0 l))))],none,false⟩) (bq 128 (bm (ah (kC (cL (.nm .sess))) (ah (kC cI) (ah (kC (ql 100 [] [])) aH))) aI fun (l,most,_,_) (_)=>⟨[most<=1048576],[.c (.bool (.atom ((az Sess.client most 0 l))))],none,false⟩) (bq 166 (bm (ah (kC cU) aH) aI fun (n,_) (_)=>⟨[],[.c (.int (((bl n.n:Int))))],none,false⟩) wi))))))
theorem f_:aW Tryz.prog (al tyT) rX:=(au (av (ab aZ ai) aj fun (x,_) (_) _=>Qi x ) (au (av (ab aZ ai) aj fun (x,_) (_) _=>Pz x ) (au (av (ab (aq aY) (ab (aq ay) (ab (aq dw) ai))) aj fun (l,most,_,_) (_) hp=>rY l most (cY hp)) (au (av (ab (aq aY) (ab (aq ay) (ab (aq dw) ai))) aj fun (l,most,_,_) (_) hp=>sO l most (cY hp)) (au (av (ab (aq aY) (ab (aq ay) (ab (aq dw) ai))) aj fun (l,most,_,_) (_) hp=>rQ l most (cY hp)) (au (av (ab (aq Hp) ai) aj fun (n,_) (_) _=>Pj n ) hY))))))
theorem Rq {n k:Nat} (h:(k:Int)<bl n):(eH n k).set k (UInt8.ofNat (n / 128 ^ k) ||| UInt8.ofNat 128)=eH n (k+1):=xe (by omega)
theorem JM {n k:Nat} (h1:k<=bl n) (h2:(bl n:Int)<=(k:Int)):(eH n k).set ((bl n:Int) - 1).toNat ((eH n k).getD ((bl n:Int) - 1).toNat (dflt Sh.u8) &&& UInt8.ofNat 127)=bS n:=by
 have e:k=bl n:=by omega
 have e2:((bl n:Int) - 1).toNat=bl n - 1:=by omega
 have hl:=na (n:=n) (Nat.le_refl _)
 have hp:=gA n
 subst e
 have hlt:bl n - 1<(eH n (bl n)).length:=by omega
 rw [e2,List.getD_eq_getElem?_getD,List.getElem?_eq_getElem hlt,Option.getD_some,ye (List.getElem?_eq_getElem hlt)]
 rfl
def Tq (n:U64):List (Nat × LI):=[(4,{ σ:=Nat,F:=fun k=>([(0,one (.u64 (n.n / 128 ^ k))),(3,one (.int (bl n.n))),(4,one (.own 0)),(10,one (.int (bl n.n))),(11,one (.int k))],[.row 5 .u8 ((eH n.n k))]),J:=fun k=>k<=bl n.n,μ:=fun k=>bl n.n - k })]
def vd (l:List Sess):List (Nat × LI):=[(2,{ σ:=Nat,F:=fun k=>([(1,one (.fn 130 [] [])),(7,one (.fz (.nm .sess) (l))),(8,one (.int (l).length)),(9,one (.int k))],[]),J:=fun k=>k<=l.length/\(l.take k).all (bn)=true,μ:=fun k=>(l).length - k })]
def wK (l:List Opn):List (Nat × LI):=[(2,{ σ:=Nat,F:=fun k=>([(1,one (.fn 134 [] [])),(7,one (.fz (.nm .opn) (l))),(8,one (.int (l).length)),(9,one (.int k))],[]),J:=fun k=>k<=l.length/\(l.take k).all (bp)=true,μ:=fun k=>(l).length - k })]
theorem Vl (n:U64) (r0:List UInt8):gV tyT rX (Tq n) Tryz.f120 [.c (.u64 (n).n)] [] [.c (.own 0)] [.row 5 .u8 (r0)]=((fun (q2:Nat)=>(fun (q1:Int)=>(fun (q0:Int)=>n.n<(18446744073709551616:Nat)->I64 q0->(0:Int)<=q0/\q0*(↑(1:Nat):Int)<=(140737488355328:Int)/\q0=q0/\∃ (s0:Nat),(fun (q3:Int)=>(n.n=n.n / (128:Nat) ^ s0/\q0=q0/\q0=q0/\(0:Int)=(↑s0:Int)/\List.replicate q2 (dflt Sh.u8)=eH n.n s0)/\s0<=q2/\∀ (s:Nat),(fun (q4:List UInt8)=>s<=q2->((↑s:Int)<q0->(0:Int)<=(↑s:Int)/\(↑s:Int)<(↑q4.length:Int)/\(7:Nat)<(64:Nat)/\I64 ((↑s:Int)+q1)/\∃ (s':Nat),(n.n / (128:Nat) ^ s / (2:Nat) ^ (7:Nat)=n.n / (128:Nat) ^ s' /\ q0=q0/\q0=q0/\(↑s:Int)+q1=(↑s':Int)/\q4.set s (UInt8.ofNat (n.n / (128:Nat) ^ s) ||| UInt8.ofNat (128:Nat))=eH n.n s')/\s' <= q2/\q2 - s' < q2 - s)/\(q0<=(↑s:Int)->I64 q3/\(0:Int)<=q3/\q3<(↑q4.length:Int)/\(0:Int)<=q3/\q3<(↑q4.length:Int)/\q4.set q3.toNat (q4.getD q3.toNat (dflt Sh.u8) &&& UInt8.ofNat (127:Nat))=r0)) (eH n.n s)) (q0 - q1)) (↑q2:Int)) (1:Int)) (bl n.n)):=by kernel_rfl
theorem UT (n:U64):Sat Tryz.prog (al tyT) 120 [.c (.u64 (n).n)] [] ⟨[],[.c (.own 0)],some ([.row 5 .u8 ((bS n.n))]),true⟩:=by
 refine cA f_ (Tq n) Tryz.func120 (by decide) (by kernel_rfl) ?_
 rw [Vl]
 intro hn
 have h1:=gA n.n
 have h10:=pD hn
 iterate 3 ((all_goals (repeat' (first | with_reducible apply bu | with_reducible refine bw ?_ | intro))); (all_goals try (first | exact bT | exact (xZ n.n) | exact (Rq aG) | exact (JM aG aG) | exact div_pow | exact (by rw [Nat.pow_zero,Nat.div_one]) | exact (by rw [na aG]; omega))); all_goals try first | refine ⟨‹Nat› + 1,?_⟩ | refine ⟨0,?_⟩)
theorem Be (l:List Sess) (r0:Bool):ck tyT rX (vd l) Tryz.f129 [.c (.fz (.nm .sess) (l)),.c (.fn 130 [] [])] [] [.c (.bool (.atom (r0)))]=((fun (q0:Nat)=>l.length*(32:Nat)<=(140737488355328:Nat)->∃ (s0:Nat),(l=l/\(↑l.length:Int)=(↑q0:Int)/\(0:Int)=(↑s0:Int))/\(s0<=q0/\(List.take s0 l).all bn=true)/\∀ (s:Nat),s<=q0/\(List.take s l).all bn=true->((↑s:Int)<(↑q0:Int)->(0:Int)<=(↑s:Int)/\(↑s:Int)<(↑l.length:Int)/\∀ (x:Sess),l[s]? = some x->I64 x.client->I64 x.seq->I64 x.last.code->I64 x.last.n->(bn x=false->false=r0)/\(bn x=true->I64 ((↑s:Int)+(1:Int))/\∃ (s':Nat),(l=l/\(↑q0:Int)=(↑q0:Int)/\(↑s:Int)+(1:Int)=(↑s':Int))/\(s' <= q0/\(List.take s' l).all bn=true)/\q0 - s' < q0 - s))/\((↑q0:Int)<=(↑s:Int)->true=r0)) l.length):=by kernel_rfl
theorem BT (l:List Sess):Sat Tryz.prog (al tyT) 129 [.c (.fz (.nm .sess) (l)),.c (.fn 130 [] [])] [] ⟨[],[.c (.bool (.atom ((l.all (bn)))))],none,false⟩:=by
 refine aJ f_ (vd l) Tryz.func129 (by decide) (by kernel_rfl) ?_
 rw [Be]
 iterate 3 ((all_goals (repeat' (first | with_reducible apply bu | with_reducible refine bw ?_ | intro))); (all_goals try (first | exact bT | exact (pP (p:=bn) ae ae ae) | exact (Df (p:=bn) ae ae) | exact (IU (p:=bn) ae aG) | exact rfl)); all_goals try first | refine ⟨‹Nat› + 1,?_⟩ | refine ⟨0,?_⟩)
theorem CK (l:List Opn) (r0:Bool):ck tyT rX (wK l) Tryz.f133 [.c (.fz (.nm .opn) (l)),.c (.fn 134 [] [])] [] [.c (.bool (.atom (r0)))]=((fun (q0:Nat)=>l.length*(16:Nat)<=(140737488355328:Nat)->∃ (s0:Nat),(l=l/\(↑l.length:Int)=(↑q0:Int)/\(0:Int)=(↑s0:Int))/\(s0<=q0/\(List.take s0 l).all bp=true)/\∀ (s:Nat),s<=q0/\(List.take s l).all bp=true->((↑s:Int)<(↑q0:Int)->(0:Int)<=(↑s:Int)/\(↑s:Int)<(↑l.length:Int)/\∀ (x:Opn),l[s]? = some x->I64 x.set->I64 x.client->(bp x=false->false=r0)/\(bp x=true->I64 ((↑s:Int)+(1:Int))/\∃ (s':Nat),(l=l/\(↑q0:Int)=(↑q0:Int)/\(↑s:Int)+(1:Int)=(↑s':Int))/\(s' <= q0/\(List.take s' l).all bp=true)/\q0 - s' < q0 - s))/\((↑q0:Int)<=(↑s:Int)->true=r0)) l.length):=by kernel_rfl
theorem Bi (l:List Opn):Sat Tryz.prog (al tyT) 133 [.c (.fz (.nm .opn) (l)),.c (.fn 134 [] [])] [] ⟨[],[.c (.bool (.atom ((l.all (bp)))))],none,false⟩:=by
 refine aJ f_ (wK l) Tryz.func133 (by decide) (by kernel_rfl) ?_
 rw [CK]
 iterate 3 ((all_goals (repeat' (first | with_reducible apply bu | with_reducible refine bw ?_ | intro))); (all_goals try (first | exact bT | exact (pP (p:=bp) ae ae ae) | exact (Df (p:=bp) ae ae) | exact (IU (p:=bp) ae aG) | exact rfl)); all_goals try first | refine ⟨‹Nat› + 1,?_⟩ | refine ⟨0,?_⟩)
theorem sC (l:List Sess) (r0:List Sess):gV tyT rX [] Tryz.f56 [.c (.fz (.nm .sess) (l))] [] [.c (.own 0)] [.row 82 (.nm .sess) (r0)]=((fun (q0:Prop)=>q0->∀ (b:Bool),(b=true->l=[])->(b=true->r0=[])/\(b=false->q0/\l=r0)) (l.length*(32:Nat)<=(140737488355328:Nat))):=by kernel_rfl
theorem sW (l:List Sess):Sat Tryz.prog (al tyT) 56 [.c (.fz (.nm .sess) (l))] [] ⟨[],[.c (.own 0)],some ([.row 82 (.nm .sess) ((l))]),true⟩:=by
 refine cA f_ [] Tryz.func56 (by decide) (by kernel_rfl) ?_
 rw [sC]
 exact fun h b hb=>⟨hb,fun _=>⟨h,rfl⟩⟩
theorem wq (l:List Opn) (r0:List Opn):gV tyT rX [] Tryz.f57 [.c (.fz (.nm .opn) (l))] [] [.c (.own 0)] [.row 63 (.nm .opn) (r0)]=((fun (q0:Prop)=>q0->∀ (b:Bool),(b=true->l=[])->(b=true->r0=[])/\(b=false->q0/\l=r0)) (l.length*(16:Nat)<=(140737488355328:Nat))):=by kernel_rfl
theorem wD (l:List Opn):Sat Tryz.prog (al tyT) 57 [.c (.fz (.nm .opn) (l))] [] ⟨[],[.c (.own 0)],some ([.row 63 (.nm .opn) ((l))]),true⟩:=by
 refine cA f_ [] Tryz.func57 (by decide) (by kernel_rfl) ?_
 rw [wq]
 exact fun h b hb=>⟨hb,fun _=>⟨h,rfl⟩⟩
theorem tC (l:List Snap) (r0:List Snap):gV tyT rX [] Tryz.f58 [.c (.fz (.nm .snap) (l))] [] [.c (.own 0)] [.row 73 (.nm .snap) (r0)]=((fun (q0:Prop)=>q0->∀ (b:Bool),(b=true->l=[])->(b=true->r0=[])/\(b=false->q0/\l=r0)) (l.length*(64:Nat)<=(140737488355328:Nat))):=by kernel_rfl
theorem sL (l:List Snap):Sat Tryz.prog (al tyT) 58 [.c (.fz (.nm .snap) (l))] [] ⟨[],[.c (.own 0)],some ([.row 73 (.nm .snap) ((l))]),true⟩:=by
 refine cA f_ [] Tryz.func58 (by decide) (by kernel_rfl) ?_
 rw [tC]
 exact fun h b hb=>⟨hb,fun _=>⟨h,rfl⟩⟩
theorem uH (l:List Int) (r0:List Int):ck tyT rX [] Tryz.f59 [.c (.fz .int (l))] [] [.c (.fz .int (r0))]=((fun (q0:Prop)=>q0->∀ (b:Bool),(b=true->l=[])->(b=true->r0=[])/\(b=false->q0/\l=r0)) (l.length*(8:Nat)<=(140737488355328:Nat))):=by kernel_rfl
theorem v_ (l:List Int):Sat Tryz.prog (al tyT) 59 [.c (.fz .int (l))] [] ⟨[],[.c (.fz .int ((l)))],none,false⟩:=by
 refine aJ f_ [] Tryz.func59 (by decide) (by kernel_rfl) ?_
 rw [uH]
 intros; repeat' (first | refine And.intro ?_ ?_ | intro)
 all_goals first | rfl | assumption | simp_all
def wG:cO:=(bq 59 (bm (ah (kC (cL .int)) aH) aI fun (l,_) (_)=>⟨[],[.c (.fz .int ((l)))],none,false⟩) (bq 58 (bm (ah (kC (cL (.nm .snap))) aH) aI fun (l,_) (_)=>⟨[],[.c (.own 0)],some ([.row 73 (.nm .snap) ((l))]),true⟩) (bq 57 (bm (ah (kC (cL (.nm .opn))) aH) aI fun (l,_) (_)=>⟨[],[.c (.own 0)],some ([.row 63 (.nm .opn) ((l))]),true⟩) (bq 56 (bm (ah (kC (cL (.nm .sess))) aH) aI fun (l,_) (_)=>⟨[],[.c (.own 0)],some ([.row 82 (.nm .sess) ((l))]),true⟩) (bq 133 (bm (ah (kC (cL (.nm .opn))) (ah (kC (ql 134 [] [])) aH)) aI fun (l,_,_) (_)=>⟨[],[.c (.bool (.atom ((l.all (bp)))))],none,false⟩) (bq 129 (bm (ah (kC (cL (.nm .sess))) (ah (kC (ql 130 [] [])) aH)) aI fun (l,_,_) (_)=>⟨[],[.c (.bool (.atom ((l.all (bn)))))],none,false⟩) (bq 120 (bm (ah (kC cU) aH) aI fun (n,_) (_)=>⟨[],[.c (.own 0)],some ([.row 5 .u8 ((bS n.n))]),true⟩) rX)))))))
theorem gY:aW Tryz.prog (al tyT) wG:=(au (av (ab (aq aY) ai) aj fun (l,_) (_) _=>v_ l ) (au (av (ab (aq aY) ai) aj fun (l,_) (_) _=>sL l ) (au (av (ab (aq aY) ai) aj fun (l,_) (_) _=>wD l ) (au (av (ab (aq aY) ai) aj fun (l,_) (_) _=>sW l ) (au (av (ab (aq aY) (ab (aq dw) ai)) aj fun (l,_,_) (_) _=>Bi l ) (au (av (ab (aq aY) (ab (aq dw) ai)) aj fun (l,_,_) (_) _=>BT l ) (au (av (ab (aq Hp) ai) aj fun (n,_) (_) _=>UT n ) f_)))))))
theorem QT {x:Int} {l:List Int} {k:Nat} (h:gQ x (l.take k) = -1) (hk:l.length<=k):-1=gQ x l:=by rw [List.take_of_length_le hk] at h; exact h.symm
theorem Mh {x y:Int} {l:List Int} {k:Nat} (h:gQ x (l.take k) = -1) (hy:l[k]? = some y) (e:x=y):(k:Int)=gQ x l:=by
 refine Ec (fun j z hj hz hc=>?_) hy e
 have hm:z ∈ l.take k:=by
  obtain ⟨h1,h2⟩:=List.getElem?_eq_some_iff.1 hz
  rw [List.mem_take_iff_getElem]; exact ⟨j,by omega,h2⟩
 have:decide (0<=gQ x (l.take k))=true:=by rw [zQ,List.contains_iff_mem,hc]; exact hm
 rw [decide_eq_true_eq] at this; omega
theorem RG {x y:Int} {l:List Int} {k:Nat} (h:gQ x (l.take k) = -1) (hy:l[k]? = some y) (e:¬ x=y):gQ x (l.take (k+1)) = -1:=by
 have h0:(l.take k).contains x=false:=by
  have:=zQ x (l.take k)
  rw [<- this,h]; decide
 have h1:(l.take (k+1)).contains x=false:=by
  rw [ax hy,<- Bool.not_eq_true,List.contains_iff_mem] at *
  intro hm
  rcases List.mem_append.1 hm with hm | hm
  ·exact h0 hm
  ·exact e (List.mem_singleton.1 hm)
 rw [<- zQ,decide_eq_false_iff_not] at h1
 unfold gQ at h1 ⊢
 split
 ·rename_i i hi; rw [hi] at h1; dsimp only at h1; omega
 ·rfl
theorem TM {l:List Int} {k:Nat} {x:Int} (hr:rowF l=true) (hx:l[k]? = some x):0<=x:=Int.le_of_lt (ku hr x (List.mem_of_getElem? hx)).1
theorem Ge {l:List Int} {k:Nat} {x:Int} (hr:rowF l=true) (hx:l[k]? = some x):((dL (l.take k)).length+(bS x.toNat).length)*1<=140737488355328:=by
 have h1:=FG (l:=l.take k) (fun x hx=>(ku hr x (List.mem_of_mem_take hx)).2)
 have h2:=sa hr
 have h3:=ku hr x (List.mem_of_getElem? hx)
 have h4:=df (n:=x.toNat) (by omega)
 rw [List.length_take] at h1; omega
def Hs (l:List Int) (x:Int):List (Nat × LI):=[(2,{ σ:=Nat,F:=fun k=>([(0,one (.fz .int (l))),(1,one (.int (x))),(7,one (.int (l).length)),(8,one (.int k))],[]),J:=fun k=>k<=l.length/\gQ x (l.take k) = -1,μ:=fun k=>(l).length - k })]
def yZ (l:List Int):List (Nat × LI):=[(5,{ σ:=Nat,F:=fun k=>([(4,one (.own 0)),(10,one (.fz .int (l))),(11,one (.int (l).length)),(12,one (.int k))],[.row 5 .u8 ((dL (l.take k)))]),J:=fun k=>k<=l.length/\rowF l=true,μ:=fun k=>(l).length - k })]
theorem Kl (l:List Int) (x:Int) (r0:Int):ck tyT wG (Hs l x) Tryz.f116 [.c (.fz .int (l)),.c (.int (x))] [] [.c (.int (r0))]=((fun (q1:Int)=>(fun (q0:Nat)=>l.length*(8:Nat)<=(140737488355328:Nat)->I64 x->∃ (s0:Nat),(l=l/\x=x/\(↑l.length:Int)=(↑q0:Int)/\(0:Int)=(↑s0:Int))/\(s0<=q0/\gQ x (List.take s0 l) = -q1)/\∀ (s:Nat),s<=q0/\gQ x (List.take s l) = -q1->((↑s:Int)<(↑q0:Int)->(0:Int)<=(↑s:Int)/\(↑s:Int)<(↑l.length:Int)/\∀ (x_1:Int),l[s]? = some x_1->I64 x_1->(x=x_1->(↑s:Int)=r0)/\(¬x=x_1->I64 ((↑s:Int)+q1)/\∃ (s':Nat),(l=l/\x=x/\(↑q0:Int)=(↑q0:Int)/\(↑s:Int)+q1=(↑s':Int))/\(s' <= q0/\gQ x (List.take s' l) = -q1)/\q0 - s' < q0 - s))/\((↑q0:Int)<=(↑s:Int) -> -q1=r0)) l.length) (1:Int)):=by kernel_rfl
theorem Kw (l:List Int) (x:Int):Sat Tryz.prog (al tyT) 116 [.c (.fz .int (l)),.c (.int (x))] [] ⟨[],[.c (.int ((gQ x l)))],none,false⟩:=by
 refine aJ gY (Hs l x) Tryz.func116 (by decide) (by kernel_rfl) ?_
 rw [Kl]
 iterate 3 ((all_goals (repeat' (first | with_reducible apply bu | with_reducible refine bw ?_ | intro))); (all_goals try (first | exact bT | exact rfl | exact (QT ae aG) | exact (Mh ae ae ae) | exact (RG ae ae ae))); all_goals try first | refine ⟨‹Nat› + 1,?_⟩ | refine ⟨0,?_⟩)
theorem Mk (n:Int) (most:Int) (named:Bool) (r0:Bool):ck tyT wG [] Tryz.f78 [.c (.int (n)),.c (.int (most)),.c (.bool (.atom (named)))] [] [.c (.bool (.atom (r0)))]=(I64 n->I64 most->(named=true->(decide ((1:Int)<=n) && decide (n<=most))=r0)/\(named=false->decide (n=(0:Int))=r0)):=by kernel_rfl
theorem Lk (n:Int) (most:Int) (named:Bool):Sat Tryz.prog (al tyT) 78 [.c (.int (n)),.c (.int (most)),.c (.bool (.atom (named)))] [] ⟨[],[.c (.bool (.atom ((iy n most named))))],none,false⟩:=by
 refine aJ gY [] Tryz.func78 (by decide) (by kernel_rfl) ?_
 rw [Mk]
 grind [iy]
theorem IL (l:List Int) (r0:List UInt8) (r1:Int):ck tyT wG (yZ l) Tryz.f86 [.c (.fz .int (l))] [] [.c (.fz .u8 (r0)),.c (.int (r1))]=((fun (q1:Prop)=>(fun (q0:Nat)=>l.length*(8:Nat)<=(140737488355328:Nat)->(rowF l=false->r0=[]/\(1:Int)=r1)/\(q1->∃ (s0:Nat),(l=l/\(↑l.length:Int)=(↑q0:Int)/\(0:Int)=(↑s0:Int)/\dL (List.take s0 l)=[])/\(s0<=q0/\q1)/\∀ (s:Nat),s<=q0/\q1->((↑s:Int)<(↑q0:Int)->(0:Int)<=(↑s:Int)/\(↑s:Int)<(↑l.length:Int)/\∀ (x:Int),l[s]? = some x->I64 x->(0:Int)<=x/\((dL (List.take s l)).length+(bS x.toNat).length)*(1:Nat)<=(140737488355328:Nat)/\I64 ((↑s:Int)+(1:Int))/\∃ (s':Nat),(l=l/\(↑q0:Int)=(↑q0:Int)/\(↑s:Int)+(1:Int)=(↑s':Int)/\dL (List.take s l)++bS x.toNat=dL (List.take s' l))/\(s' <= q0/\q1)/\q0 - s' < q0 - s)/\((↑q0:Int)<=(↑s:Int)->dL (List.take s l)=r0/\(0:Int)=r1))) l.length) (rowF l=true)):=by kernel_rfl
theorem Js (l:List Int):Sat Tryz.prog (al tyT) 86 [.c (.fz .int (l))] [] ⟨[],[.c (.fz .u8 ((bK l))),.c (.int ((cj l)))],none,false⟩:=by
 refine aJ gY (yZ l) Tryz.func86 (by decide) (by kernel_rfl) ?_
 rw [IL]
 iterate 3 ((all_goals (repeat' (first | with_reducible apply bu | with_reducible refine bw ?_ | intro))); (all_goals try (first | exact bT | exact rfl | exact (l_ ae).symm | exact (hU ae) | exact (iW ae) | exact (tP ae aG) | exact (qH ae) | exact (TM ae ae) | exact (Ge ae ae))); all_goals try first | refine ⟨‹Nat› + 1,?_⟩ | refine ⟨0,?_⟩)
theorem GM (s:State) (x:Int) (r0:Int):ck tyT wG [] Tryz.f63 [.agg (cellsOf (.nm .state) s),.c (.int (x))] [] [.c (.int (r0))]=(I64 s.version->I64 s.next->I64 s.keep->I64 s.quota->s.sess.length*(32:Nat)<=(140737488355328:Nat)->s.opens.length*(16:Nat)<=(140737488355328:Nat)->s.snaps.length*(64:Nat)<=(140737488355328:Nat)->I64 x->I64 (ao Sess.client x s.sess)->ao Sess.client x s.sess=r0):=by kernel_rfl
theorem Dx (s:State) (x:Int):Sat Tryz.prog (al tyT) 63 [.agg (cellsOf (.nm .state) s),.c (.int (x))] [] ⟨[],[.c (.int ((ao Sess.client x s.sess)))],none,false⟩:=by
 refine aJ gY [] Tryz.func63 (by decide) (by kernel_rfl) ?_
 rw [GM]
 grind
theorem Eu (s:State) (x:Int) (r0:Int):ck tyT wG [] Tryz.f175 [.agg (cellsOf (.nm .state) s),.c (.int (x))] [] [.c (.int (r0))]=(I64 s.version->I64 s.next->I64 s.keep->I64 s.quota->s.sess.length*(32:Nat)<=(140737488355328:Nat)->s.opens.length*(16:Nat)<=(140737488355328:Nat)->s.snaps.length*(64:Nat)<=(140737488355328:Nat)->I64 x->I64 (ao Opn.set x s.opens)->ao Opn.set x s.opens=r0):=by kernel_rfl
theorem Eg (s:State) (x:Int):Sat Tryz.prog (al tyT) 175 [.agg (cellsOf (.nm .state) s),.c (.int (x))] [] ⟨[],[.c (.int ((ao Opn.set x s.opens)))],none,false⟩:=by
 refine aJ gY [] Tryz.func175 (by decide) (by kernel_rfl) ?_
 rw [Eu]
 grind
theorem GF (s:State) (x:Int) (r0:Int):ck tyT wG [] Tryz.f139 [.agg (cellsOf (.nm .state) s),.c (.int (x))] [] [.c (.int (r0))]=(I64 s.version->I64 s.next->I64 s.keep->I64 s.quota->s.sess.length*(32:Nat)<=(140737488355328:Nat)->s.opens.length*(16:Nat)<=(140737488355328:Nat)->s.snaps.length*(64:Nat)<=(140737488355328:Nat)->I64 x->I64 (ao Snap.id x s.snaps)->ao Snap.id x s.snaps=r0):=by kernel_rfl
theorem HV (s:State) (x:Int):Sat Tryz.prog (al tyT) 139 [.agg (cellsOf (.nm .state) s),.c (.int (x))] [] ⟨[],[.c (.int ((ao Snap.id x s.snaps)))],none,false⟩:=by
 refine aJ gY [] Tryz.func139 (by decide) (by kernel_rfl) ?_
 rw [GF]
 grind
def LD:cO:=(bq 139 (bm (ah (kT (.nm .state)) (ah (kC cI) aH)) aI fun (s,x,_) (_)=>⟨[],[.c (.int ((ao Snap.id x s.snaps)))],none,false⟩) (bq 175 (bm (ah (kT (.nm .state)) (ah (kC cI) aH)) aI fun (s,x,_) (_)=>⟨[],[.c (.int ((ao Opn.set x s.opens)))],none,false⟩) (bq 63 (bm (ah (kT (.nm .state)) (ah (kC cI) aH)) aI fun (s,x,_) (_)=>⟨[],[.c (.int ((ao Sess.client x s.sess)))],none,false⟩) (bq 86 (bm (ah (kC (cL .int)) aH) aI fun (l,_) (_)=>⟨[],[.c (.fz .u8 ((bK l))),.c (.int ((cj l)))],none,false⟩) (bq 78 (bm (ah (kC cI) (ah (kC cI) (ah (kC cB) aH))) aI fun (n,most,named,_) (_)=>⟨[],[.c (.bool (.atom ((iy n most named))))],none,false⟩) (bq 116 (bm (ah (kC (cL .int)) (ah (kC cI) aH)) aI fun (l,x,_) (_)=>⟨[],[.c (.int ((gQ x l)))],none,false⟩) wG))))))
theorem sq:aW Tryz.prog (al tyT) LD:=(au (av (ab aZ (ab (aq ay) ai)) aj fun (s,x,_) (_) _=>HV s x ) (au (av (ab aZ (ab (aq ay) ai)) aj fun (s,x,_) (_) _=>Eg s x ) (au (av (ab aZ (ab (aq ay) ai)) aj fun (s,x,_) (_) _=>Dx s x ) (au (av (ab (aq aY) ai) aj fun (l,_) (_) _=>Js l ) (au (av (ab (aq ay) (ab (aq ay) (ab (aq lN) ai))) aj fun (n,most,named,_) (_) _=>Lk n most named ) (au (av (ab (aq aY) (ab (aq ay) ai)) aj fun (l,x,_) (_) _=>Kw l x ) gY))))))
theorem xr (l:List Int) (x:Int) (r0:Bool):ck tyT LD [] Tryz.f77 [.c (.fz .int (l)),.c (.int (x))] [] [.c (.bool (.atom (r0)))]=(l.length*(8:Nat)<=(140737488355328:Nat)->I64 x->I64 (gQ x l)->decide ((0:Int)<=gQ x l)=r0):=by kernel_rfl
theorem yk (l:List Int) (x:Int):Sat Tryz.prog (al tyT) 77 [.c (.fz .int (l)),.c (.int (x))] [] ⟨[],[.c (.bool (.atom ((l.contains x))))],none,false⟩:=by
 refine aJ sq [] Tryz.func77 (by decide) (by kernel_rfl) ?_
 rw [xr]
 intros; exact zQ _ _
theorem Fx (x:Snap) (v:Int) (t:Int) (r0:Bool):ck tyT LD [] Tryz.f172 [.agg (cellsOf (.nm .snap) x),.c (.ptr 0 0),.c (.ptr 1 0)] [.box 3 ([.int (v)]),.box 3 ([.int (t)])] [.c (.bool (.atom (r0)))]=(I64 x.id->I64 x.set->x.chunks.length*(8:Nat)<=(140737488355328:Nat)->x.tag.b.length<=(140737488355328:Nat)->(bK x.chunks).length*(1:Nat)<=(140737488355328:Nat)->I64 (cj x.chunks)->(decide (cj x.chunks=(0:Int)) && bb x.set (1:Int) (8:Int) && (!x.held || decide ((2:Int)<=v)) && decide ((↑x.tag.b.length:Int)<=t))=r0):=by kernel_rfl
theorem EU (x:Snap) (v:Int) (t:Int):Sat Tryz.prog (al tyT) 172 [.agg (cellsOf (.nm .snap) x),.c (.ptr 0 0),.c (.ptr 1 0)] [.box 3 ([.int (v)]),.box 3 ([.int (t)])] ⟨[],[.c (.bool (.atom ((cV v t x))))],none,false⟩:=by
 refine aJ sq [] Tryz.func172 (by decide) (by kernel_rfl) ?_
 rw [Fx]
 intros; rfl
def Lc:cO:=(bq 172 (bm (ah (kT (.nm .snap)) (ah (kC (cw 0 0)) (ah (kC (cw 1 0)) aH))) (aC (cq 3 (aA cI cm)) (aC (cq 3 (aA cI cm)) aI)) fun (x,_,_,_) ((v,_),(t,_),_)=>⟨[],[.c (.bool (.atom ((cV v t x))))],none,false⟩) (bq 77 (bm (ah (kC (cL .int)) (ah (kC cI) aH)) aI fun (l,x,_) (_)=>⟨[],[.c (.bool (.atom ((l.contains x))))],none,false⟩) LD))
theorem sM:aW Tryz.prog (al tyT) Lc:=(au (av (ab aZ (ab (aq aQ) (ab (aq aQ) ai))) (ak (aN (ag ay aM)) (ak (aN (ag ay aM)) aj)) fun (x,_,_,_) ((v,_),(t,_),_) _=>EU x v t ) (au (av (ab (aq aY) (ab (aq ay) ai)) aj fun (l,x,_) (_) _=>yk l x ) sq))
def vD (l:List Snap) (v:Int) (t:Int):List (Nat × LI):=[(2,{ σ:=Nat,F:=fun k=>([(1,one (.fn 172 [] [(0,0),(1,0)])),(7,one (.fz (.nm .snap) (l))),(8,one (.int (l).length)),(9,one (.int k))],[.box 3 ([.int ((v))]),.box 3 ([.int ((t))])]),J:=fun k=>k<=l.length/\(l.take k).all ((cV v t))=true,μ:=fun k=>(l).length - k })]
theorem L_ (l:List Int) (c:Command) (r0:Bool):ck tyT Lc [] Tryz.f76 [.c (.fz .int (l)),.c (.ptr 0 0)] [.box 24 (cellsOf (.nm .command) (c))] [.c (.bool (.atom (r0)))]=(l.length*(8:Nat)<=(140737488355328:Nat)->l.contains c.kind=r0):=by kernel_rfl
theorem Ml (l:List Int) (c:Command):Sat Tryz.prog (al tyT) 76 [.c (.fz .int (l)),.c (.ptr 0 0)] [.box 24 (cellsOf (.nm .command) (c))] ⟨[],[.c (.bool (.atom ((l.contains c.kind))))],none,false⟩:=by
 refine aJ sM [] Tryz.func76 (by decide) (by kernel_rfl) ?_
 rw [L_]
 grind
theorem BP (l:List Snap) (v:Int) (t:Int) (r0:Bool):ck tyT Lc (vD l v t) Tryz.f171 [.c (.fz (.nm .snap) (l)),.c (.fn 172 [] [(0,0),(1,0)])] [.box 3 ([.int (v)]),.box 3 ([.int (t)])] [.c (.bool (.atom (r0)))]=((fun (q0:Nat)=>l.length*(64:Nat)<=(140737488355328:Nat)->∃ (s0:Nat),(l=l/\(↑l.length:Int)=(↑q0:Int)/\(0:Int)=(↑s0:Int)/\v=v/\t=t)/\(s0<=q0/\(List.take s0 l).all (cV v t)=true)/\∀ (s:Nat),s<=q0/\(List.take s l).all (cV v t)=true->((↑s:Int)<(↑q0:Int)->(0:Int)<=(↑s:Int)/\(↑s:Int)<(↑l.length:Int)/\∀ (x:Snap),l[s]? = some x->I64 x.id->I64 x.set->x.chunks.length*(8:Nat)<=(140737488355328:Nat)->x.tag.b.length<=(140737488355328:Nat)->(cV v t x=false->false=r0)/\(cV v t x=true->I64 ((↑s:Int)+(1:Int))/\∃ (s':Nat),(l=l/\(↑q0:Int)=(↑q0:Int)/\(↑s:Int)+(1:Int)=(↑s':Int)/\v=v/\t=t)/\(s' <= q0/\(List.take s' l).all (cV v t)=true)/\q0 - s' < q0 - s))/\((↑q0:Int)<=(↑s:Int)->true=r0)) l.length):=by kernel_rfl
theorem Bj (l:List Snap) (v:Int) (t:Int):Sat Tryz.prog (al tyT) 171 [.c (.fz (.nm .snap) (l)),.c (.fn 172 [] [(0,0),(1,0)])] [.box 3 ([.int (v)]),.box 3 ([.int (t)])] ⟨[],[.c (.bool (.atom ((l.all ((cV v t))))))],none,false⟩:=by
 refine aJ sM (vD l v t) Tryz.func171 (by decide) (by kernel_rfl) ?_
 rw [BP]
 iterate 3 ((all_goals (repeat' (first | with_reducible apply bu | with_reducible refine bw ?_ | intro))); (all_goals try (first | exact bT | exact (pP (p:=(cV v t)) ae ae ae) | exact (Df (p:=(cV v t)) ae ae) | exact (IU (p:=(cV v t)) ae aG) | exact rfl)); all_goals try first | refine ⟨‹Nat› + 1,?_⟩ | refine ⟨0,?_⟩)
def Kt:cO:=(bq 171 (bm (ah (kC (cL (.nm .snap))) (ah (kC (ql 172 [] [(0,0),(1,0)])) aH)) (aC (cq 3 (aA cI cm)) (aC (cq 3 (aA cI cm)) aI)) fun (l,_,_) ((v,_),(t,_),_)=>⟨[],[.c (.bool (.atom ((l.all ((cV v t))))))],none,false⟩) (bq 76 (bm (ah (kC (cL .int)) (ah (kC (cw 0 0)) aH)) (aC (cq 24 (tJ (.nm .command) cm)) aI) fun (l,_,_) ((c,_),_)=>⟨[],[.c (.bool (.atom ((l.contains c.kind))))],none,false⟩) Lc))
theorem sr:aW Tryz.prog (al tyT) Kt:=(au (av (ab (aq aY) (ab (aq dw) ai)) (ak (aN (ag ay aM)) (ak (aN (ag ay aM)) aj)) fun (l,_,_) ((v,_),(t,_),_) _=>Bj l v t ) (au (av (ab (aq aY) (ab (aq aQ) ai)) (ak (aN (dZ aM)) aj) fun (l,_,_) ((c,_),_) _=>Ml l c ) sM))
theorem Wv (k:Int):(if k=12 then some (Span.mk 0 64) else if k=8 then some (Span.mk 2 3) else if k=6 then some (Span.mk 0 8) else none).getD (dflt (.nm .span))=⟨(gP k).1,(gP k).2⟩:=by
 by_cases h1:k=12
 ·subst h1; rfl
 ·by_cases h2:k=8
  ·subst h2; rfl
  ·by_cases h3:k=6
   ·subst h3; rfl
   ·simp [gP,nu,h1,h2,h3,dflt]; rfl
theorem RS (c:Command) (r0:Bool):ck tyT Kt [] Tryz.f40 [.agg (cellsOf (.nm .command) c)] [] [.c (.bool (.atom (r0)))]=((fun (q9:Int)=>(fun (q8:Int)=>(fun (q7:Prop)=>(fun (q6:Bool)=>(fun (q5:Bool)=>(fun (q4:Bool)=>(fun (q3:Prop)=>(fun (q2:Prop)=>(fun (q1:Prop)=>(fun (q0:den (Sh.nm NT.span))=>I64 q8->I64 c.client->I64 c.seq->I64 c.set->I64 c.id->I64 c.n->c.chunks.length*(8:Nat)<=(140737488355328:Nat)->c.text.b.length<=(140737488355328:Nat)->(q8=(3:Int)->((decide (q0.lo<=c.n) && decide (c.n<=q0.hi))=true->(rowF c.chunks=true->(q7->q1)/\(¬q7->q2))/\(rowF c.chunks=false->q2))/\((decide (q0.lo<=c.n) && decide (c.n<=q0.hi))=false->q2))/\(¬q8=(3:Int)->(q8=(11:Int)->((decide (q0.lo<=c.n) && decide (c.n<=q0.hi))=true->(q3->((↑c.text.b.length:Int)<=(16:Int)->q1)/\((16:Int)<(↑c.text.b.length:Int)->q2))/\(¬q3->q2))/\((decide (q0.lo<=c.n) && decide (c.n<=q0.hi))=false->q2))/\(¬q8=(11:Int)->((decide (q0.lo<=c.n) && decide (c.n<=q0.hi))=true->(q3->(q7->q1)/\(¬q7->q2))/\(¬q3->q2))/\((decide (q0.lo<=c.n) && decide (c.n<=q0.hi))=false->q2)))) (((fun (j:Int)=>if j=(12:Int) then some (Span.mk (0:Int) (64:Int)) else (fun (j:Int)=>if j=q9 then some (Span.mk (2:Int) (3:Int)) else (fun (j:Int)=>if j=(6:Int) then some (Span.mk (0:Int) q9) else (fun (_:Int)=>none) j) j) j) q8).getD (dflt (Sh.nm NT.span)))) ((q6=true->(q5=true->(q4=true->iy c.id (1048576:Int) ([(5:Int),(7:Int),(9:Int),(10:Int),(11:Int)].contains q8)=r0)/\(q4=false->q2))/\(q5=false->q2))/\(q6=false->q2))) (false=r0)) ((↑c.chunks.length:Int)=(0:Int))) (iy c.set q9 ([(2:Int),(3:Int),(4:Int)].contains q8))) (iy c.seq (1048576:Int) ![(1:Int),q9].contains q8)) (iy c.client q9 ![q9].contains q8)) (c.text=Str.mk [])) c.kind) (8:Int)):=by kernel_rfl
theorem Qt (c:Command):Sat Tryz.prog (al tyT) 40 [.agg (cellsOf (.nm .command) c)] [] ⟨[],[.c (.bool (.atom ((eF c))))],none,false⟩:=by
 refine aJ sr [] Tryz.func40 (by decide) (by kernel_rfl) ?_
 rw [RS]
 simp only [Wv]
 (repeat' (first | with_reducible apply bu | with_reducible refine bw ?_ | intro))
 all_goals ((unfold eF wW Vt; simp_all) <;> (intros; omega))
theorem Kn (s:State) (v:Int) (r0:Bool):ck tyT Kt [] Tryz.f135 [.agg (cellsOf (.nm .state) s),.c (.int (v))] [] [.c (.bool (.atom (r0)))]=((fun (q1:Nat)=>(fun (q0:Int)=>I64 s.version->I64 s.next->I64 s.keep->I64 s.quota->s.sess.length*(32:Nat)<=(140737488355328:Nat)->s.opens.length*(16:Nat)<=(140737488355328:Nat)->q1*(64:Nat)<=(140737488355328:Nat)->I64 v->((↑q1:Int)<=(16:Int)->I64 q0/\q0<=(1048576:Int))/\((16:Int)<(↑q1:Int)\/az Snap.id q0 (0:Int) s.snaps=false->false=r0)/\((↑q1:Int)<=(16:Int)/\az Snap.id q0 (0:Int) s.snaps=true->(v<(3:Int)->s.snaps.all (cV v (0:Int))=r0)/\((3:Int)<=v->s.snaps.all (cV v (16:Int))=r0))) (s.next - (1:Int))) s.snaps.length):=by kernel_rfl
theorem MD (s:State) (v:Int) (h0:1<=s.next/\s.next<=1048576):Sat Tryz.prog (al tyT) 135 [.agg (cellsOf (.nm .state) s),.c (.int (v))] [] ⟨[1<=s.next/\s.next<=1048576],[.c (.bool (.atom ((eP s v))))],none,false⟩:=by
 refine aJ sr [] Tryz.func135 (by decide) (by kernel_rfl) ?_
 rw [Kn]
 (repeat' (first | with_reducible apply bu | with_reducible refine bw ?_ | intro))
 all_goals (first | exact bT | ((simp only [eP,jz]; simp_all) <;> (intros; omega)) | (simp only [eP,jz]; grind))
def nD:cO:=(bq 135 (bm (ah (kT (.nm .state)) (ah (kC cI) aH)) aI fun (s,v,_) (_)=>⟨[1<=s.next/\s.next<=1048576],[.c (.bool (.atom ((eP s v))))],none,false⟩) (bq 40 (bm (ah (kT (.nm .command)) aH) aI fun (c,_) (_)=>⟨[],[.c (.bool (.atom ((eF c))))],none,false⟩) Kt))
theorem eJ:aW Tryz.prog (al tyT) nD:=(au (av (ab aZ (ab (aq ay) ai)) aj fun (s,v,_) (_) hp=>MD s v (cY hp)) (au (av (ab aZ ai) aj fun (c,_) (_) _=>Qt c ) sr))
def gr (n:Int) (used:Bool) (lo hi:Int):Bool:=if used then bb n lo hi else decide (n=0)
def dm (s:State) (at_:Nat) (k:Nat):Int:=(((s.snaps.drop (at_+1)).take k).filter fun x=>decide (x.set=(s.snaps.getD at_ (dflt (.nm .snap))).set)).length
def fN (s:State) (at_:Int):Bool:=if at_<0\/(s.snaps.length:Int)<=at_ then false else decide (dm s at_.toNat s.snaps.length<s.keep)
def nch (l:List Snap):Nat:=(l.flatMap Snap.chunks).length
def cg (c:Int) (l:List Snap):Nat:=(l.flatMap Snap.chunks).count c
def aO (id:Int) (l:List Snap):List Snap:=l.filter fun x=>!decide (x.id=id)
theorem gd {α:Type} {l:List α} {k:Nat} {d:α} (h:(k:Int)<l.length):l[k]? = some (l.getD k d):=by
 have hk:k<l.length:=by omega
 rw [List.getD_eq_getElem?_getD,List.getElem?_eq_getElem hk]; rfl
theorem JZ {l:List Int} {k:Nat} (h:az id 64 0 (l.take k)=true) (hk:(k:Int)<l.length) (hb:bb (l.getD k (dflt .int)) 1 64=true/\((k:Int)<=0\/l.getD ((k:Int) - 1).toNat (dflt .int)<l.getD k (dflt .int))):az id 64 0 (l.take (k+1))=true:=by
 have h1:=qk hb.1
 refine jj (key:=id) h (gd hk) ?_ h1.2
 by_cases h0:k=0
 ·subst h0; show (0:Int)<l.getD 0 (dflt .int); omega
 ·rw [gG (by omega) (gd (d:=dflt .int) (by omega))]
  have:=hb.2.resolve_left (by omega)
  rwa [show ((k:Int) - 1).toNat=k - 1 by omega] at this
theorem LL {l:List Int} {k:Nat} (hk:(k:Int)<l.length) (hb:bb (l.getD k (dflt .int)) 1 64=false\/0<(k:Int)/\l.getD k (dflt .int)<=l.getD ((k:Int) - 1).toNat (dflt .int)) (h:az id 64 0 (l.take k)=true):false=rowF l:=by
 refine jK (gd (d:=dflt .int) hk) fun h2=>?_
 rcases hb with hb | ⟨h3,h4⟩
 ·have h5:=inF hb
  have:=Br h
  omega
 ·rw [gG (by omega) (gd (d:=dflt .int) (by omega))] at h2
  rw [show ((k:Int) - 1).toNat=k - 1 by omega] at h4
  have:=h2.1
  dsimp only [id] at this
  omega
theorem Gh {s:State} {a:Nat}:0=dm s a 0:=by simp [dm]
theorem LZ {s:State} {a k:Nat}:dm s a k<=(k:Int):=by
 have h1:=List.length_filter_le (fun x:Snap=>decide (x.set=(s.snaps.getD a (dflt (.nm .snap))).set)) ((s.snaps.drop (a+1)).take k)
 have h2:((s.snaps.drop (a+1)).take k).length<=k:=by rw [List.length_take]; omega
 unfold dm; omega
theorem Ke {s:State} {a k:Nat}:0<=dm s a k:=by unfold dm; omega
theorem Eh {s:State} {a k:Nat} (h:a+1+k<=s.snaps.length) (h2:s.snaps.length*64<=140737488355328):I64 (dm s a k+1):=by
 have h1:=LZ (s:=s) (a:=a) (k:=k)
 have h0:=Ke (s:=s) (a:=a) (k:=k)
 constructor <;> omega
theorem EE {s:State} {a k:Nat} {x:Snap} (hx:(s.snaps.drop (a+1))[k]? = some x) (h:x.set=(s.snaps.getD a (dflt (.nm .snap))).set):dm s a k+1=dm s a (k+1):=by
 unfold dm
 rw [ax hx,List.filter_append,List.length_append]
 simp [h]
theorem Ic {s:State} {a k:Nat} {x:Snap} (hx:(s.snaps.drop (a+1))[k]? = some x) (h:¬ x.set=(s.snaps.getD a (dflt (.nm .snap))).set):dm s a k=dm s a (k+1):=by
 unfold dm
 rw [ax hx,List.filter_append,List.length_append]
 rw [show List.filter (fun x:Snap=>decide (x.set=(s.snaps.getD a (dflt (.nm .snap))).set)) [x]=[] by simp only [List.filter_cons,h,decide_false,List.filter_nil]; rfl]
 simp
theorem Ad {s:State} {a:Int} {k:Nat} (h0:0<=a) (h:a+1+k<s.snaps.length):(s.snaps.drop (a.toNat+1))[k]? = some (s.snaps.getD (a+1+k).toNat (dflt (.nm .snap))):=by
 rw [List.getElem?_drop,show (a+1+k).toNat=a.toNat+1+k by omega]
 exact gd aG
theorem wC {s:State} {a:Int} {k:Nat} (h0:0<=a) (ha:a<s.snaps.length) (h:(s.snaps.length:Int)<=a+1+k):decide (dm s a.toNat k<s.keep)=fN s a:=by
 unfold fN
 rw [if_neg (by omega)]
 have e:∀ m:Nat,(s.snaps.length:Int)<=a+1+m->dm s a.toNat m=dm s a.toNat s.snaps.length:=fun m hm=>by
  unfold dm
  rw [List.take_of_length_le (by rw [List.length_drop]; omega),List.take_of_length_le (by rw [List.length_drop]; omega)]
 rw [e k h]
theorem uv {s:State} {a:Int} (h:a<0\/(s.snaps.length:Int)<=a):false=fN s a:=by unfold fN; rw [if_pos h]
theorem GU {id:Int} {l:List Snap} {k:Nat} {x y:Snap} (h:¬ x.id=id) (hx:l[k]? = some x) (hy:l[k]? = some y):aO id (l.take k)++[y]=aO id (l.take (k+1)):=by
 rw [hx] at hy; cases hy
 unfold aO; rw [ax hx,List.filter_append]; simp [h]
theorem Gc {id:Int} {l:List Snap} {k:Nat} {x:Snap} (hx:l[k]? = some x) (h:x.id=id):aO id (l.take k)=aO id (l.take (k+1)):=by
 unfold aO; rw [ax hx,List.filter_append]; simp [h]
theorem xH {id:Int} {l:List Snap} {k:Nat} (h:(l.length:Int)<=k):aO id (l.take k)=aO id l:=by rw [List.take_of_length_le (by omega)]
theorem xJ {id:Int} {l:List Snap} {k:Nat} {x:Snap} (h:(k:Int)<l.length) (hl:l.length*64<=140737488355328):((aO id (l.take k)).length+[x].length)*64<=140737488355328:=by
 have h1:=List.length_filter_le (fun x:Snap=>!decide (x.id=id)) (l.take k)
 rw [List.length_take] at h1
 unfold aO
 simp only [List.length_cons,List.length_nil]
 omega
theorem Dg {c:Int} {l:List Snap} {k:Nat} {x:Snap} (hx:l[k]? = some x):cg c (l.take (k+1))=cg c (l.take k)+x.chunks.count c:=by
 unfold cg; rw [ax hx]; simp
theorem PM {c:Int} {l:List Snap} {k q:Nat} (hl:nch l<=1048576) (hk:k<l.length):cg c (l.take k)+((l.getD k (dflt (.nm .snap))).chunks.take q).count c<=1048576:=by
 have hx:=gd (d:=dflt (.nm .snap)) (l:=l) (k:=k) (by omega)
 have h1:=Dg (c:=c) hx
 have h2:cg c (l.take (k+1))<=nch l:=by
  unfold cg nch
  refine Nat.le_trans List.count_le_length ?_
  rw [<- List.take_append_drop (k+1) l,List.flatMap_append,List.length_append,List.take_append_drop]; omega
 have h3:((l.getD k (dflt (.nm .snap))).chunks.take q).count c<=(l.getD k (dflt (.nm .snap))).chunks.count c:=(List.take_sublist _ _).count_le _
 omega
theorem CX {l:List Snap} {k:Nat} {x:Snap} (hx:l[k]? = some x):l.getD k (dflt (.nm .snap))=x:=by rw [List.getD_eq_getElem?_getD,hx]; rfl
theorem UX {c:Int} {l:List Snap}:(0:Int)=(cg c (l.take 0):Int):=rfl
theorem OL {c:Int} {l:List Snap} {k:Nat} {m:List Int}:(cg c (l.take k):Int)=((cg c (l.take k)+(m.take 0).count c:Nat):Int):=rfl
theorem TB {c:Int} {l:List Snap} {k:Nat} (h:(l.length:Int)<=k):(cg c (l.take k):Int)=(cg c l:Int):=by rw [List.take_of_length_le (by omega)]
theorem Ug {l:List Snap} {k q:Nat} {x y:Snap} (h:(q:Int)<x.chunks.length) (hx:l[k]? = some x) (hy:l[k]? = some y):(q:Int)<y.chunks.length:=by rw [hx] at hy; cases hy; exact h
theorem Uz {n k s:Nat} {m:Nat} (h:k=(s,m).1) (hk:k<n):n - (k+1)<n - s:=by dsimp only at h; omega
theorem WL {c:Int} {l:List Snap} {k q:Nat} (hl:nch l<=1048576) (hk:k<l.length):I64 (((cg c (l.take k)+((l.getD k (dflt (.nm .snap))).chunks.take q).count c:Nat):Int)+1):=by
 have:=PM (c:=c) (q:=q) hl hk; constructor <;> omega
theorem Ul {c v:Int} {l:List Snap} {k q:Nat} {x:Snap} (h:v=c) (hv:x.chunks[q]? = some v) (hx:l[k]? = some x):((cg c (l.take k)+((l.getD k (dflt (.nm .snap))).chunks.take q).count c:Nat):Int)+1=((cg c (l.take k)+((l.getD k (dflt (.nm .snap))).chunks.take (q+1)).count c:Nat):Int):=by
 rw [CX hx,ax hv,List.count_append,h]; simp; omega
theorem Wz {c v:Int} {l:List Snap} {k q:Nat} {x:Snap} (h:¬ v=c) (hv:x.chunks[q]? = some v) (hx:l[k]? = some x):((cg c (l.take k)+((l.getD k (dflt (.nm .snap))).chunks.take q).count c:Nat):Int)=((cg c (l.take k)+((l.getD k (dflt (.nm .snap))).chunks.take (q+1)).count c:Nat):Int):=by
 have h2:([v]:List Int).count c=0:=by simp [h]
 rw [CX hx,ax hv,List.count_append,h2]; rfl
theorem Va {c:Int} {l:List Snap} {k q:Nat} {x:Snap} (h:(x.chunks.length:Int)<=q) (hx:l[k]? = some x):((cg c (l.take k)+((l.getD k (dflt (.nm .snap))).chunks.take q).count c:Nat):Int)=(cg c (l.take (k+1)):Int):=by
 rw [CX hx,List.take_of_length_le (i:=q) (l:=x.chunks) (by omega),Dg hx]
theorem Ty {l:List Snap} {k q:Nat} {x:Snap} (h:(q:Int)<x.chunks.length) (hx:l[k]? = some x):q+1<=(l.getD k (dflt (.nm .snap))).chunks.length:=by rw [CX hx]; omega
theorem Vu {l:List Snap} {k q:Nat} {x:Snap} (h:(q:Int)<x.chunks.length) (hx:l[k]? = some x):(l.getD k (dflt (.nm .snap))).chunks.length - (q+1)<(l.getD k (dflt (.nm .snap))).chunks.length - q:=by rw [CX hx]; omega
def Nv (l:List Int):List (Nat × LI):=[(2,{ σ:=Nat,F:=fun k=>([(0,one (.fz .int (l))),(3,one (.int k))],[]),J:=fun k=>k<=l.length/\az id 64 0 (l.take k)=true,μ:=fun k=>l.length - k })]
def ud (st:State) (x:Int):List (Nat × LI):=[(2,{ σ:=Nat,F:=fun k=>([(1,one (.int (x))),(2,one (.ptr 0 0)),(5,one (.int k))],[.box 43 (cellsOf (.nm .state) ((st)))]),J:=fun k=>k<=st.sess.length/\ao Sess.client x (st.sess.take k) = -1,μ:=fun k=>st.sess.length - k })]
def uM (st:State) (x:Int):List (Nat × LI):=[(2,{ σ:=Nat,F:=fun k=>([(1,one (.int (x))),(2,one (.ptr 0 0)),(5,one (.int k))],[.box 43 (cellsOf (.nm .state) ((st)))]),J:=fun k=>k<=st.opens.length/\ao Opn.set x (st.opens.take k) = -1,μ:=fun k=>st.opens.length - k })]
def Ie (st:State) (x:Int):List (Nat × LI):=[(2,{ σ:=Nat,F:=fun k=>([(1,one (.int (x))),(2,one (.ptr 0 0)),(5,one (.int k))],[.box 43 (cellsOf (.nm .state) ((st)))]),J:=fun k=>k<=st.snaps.length/\ao Snap.id x (st.snaps.take k) = -1,μ:=fun k=>st.snaps.length - k })]
def Jq (st:State) (at_:Int):List (Nat × LI):=[(5,{ σ:=Nat,F:=fun k=>([(1,one (.int (at_))),(2,one (.ptr 0 0)),(5,one (.int (dm st at_.toNat k))),(6,one (.int (at_+1+k)))],[.box 43 (cellsOf (.nm .state) ((st)))]),J:=fun k=>at_.toNat+1+k<=st.snaps.length/\0<=at_,μ:=fun k=>st.snaps.length - k })]
def Nj (st:State) (at_:Int):List (Nat × LI):=[(5,{ σ:=Nat,F:=fun k=>([(1,one (.int (at_))),(2,one (.ptr 0 0)),(5,one (.int (dm st at_.toNat k))),(21,one (.fz (.nm .snap) (st.snaps.drop (at_+1).toNat))),(22,one (.int (st.snaps.drop (at_+1).toNat).length)),(23,one (.int k))],[.box 43 (cellsOf (.nm .state) ((st)))]),J:=fun k=>at_.toNat+1+k<=st.snaps.length/\0<=at_,μ:=fun k=>st.snaps.length - k })]
def AP (l:List Snap) (c:Int):List (Nat × LI):=[(3,{ σ:=Nat,F:=fun k=>([(0,one (.fz (.nm .snap) (l))),(1,one (.int (c))),(5,one (.int (cg c (l.take k)))),(6,one (.int k))],[]),J:=fun k=>k<=l.length,μ:=fun k=>l.length - k }),(6,{ σ:=Nat × Nat,F:=fun q=>([(0,one (.fz (.nm .snap) (l))),(1,one (.int (c))),(5,one (.int ((cg c (l.take q.1)+((l.getD q.1 (dflt (.nm .snap))).chunks.take q.2).count c:Nat)))),(6,one (.int q.1)),(7,one (.int q.2))],[]),J:=fun q=>q.1<l.length/\q.2<=(l.getD q.1 (dflt (.nm .snap))).chunks.length,μ:=fun q=>(l.getD q.1 (dflt (.nm .snap))).chunks.length - q.2,R:=some fun q0 q=>q.1=q0.1 })]
def qG (l:List Snap) (id:Int):List (Nat × LI):=[(3,{ σ:=Nat,F:=fun k=>([(0,one (.fz (.nm .snap) (l))),(1,one (.int (id))),(5,one (.own 0)),(6,one (.int k))],[.row 73 (.nm .snap) ((aO id (l.take k)))]),J:=fun k=>k<=l.length,μ:=fun k=>l.length - k })]
theorem Ra (l:List Int) (r0:Bool):ck tyT nD (Nv l) Tryz.f46 [.c (.fz .int (l))] [] [.c (.bool (.atom (r0)))]=((fun (q4:Int)=>(fun (q3:Int)=>(fun (q2:den Sh.int)=>(fun (q1:Int)=>(fun (q0:Int)=>l.length*(8:Nat)<=(140737488355328:Nat)->∃ (s0:Nat),(l=l/\q1=(↑s0:Int))/\(s0<=l.length/\az id q4 q1 (List.take s0 l)=true)/\∀ (s:Nat),(fun (q7:den Sh.int)=>(fun (q6:Int)=>(fun (q5:Prop)=>s<=l.length/\az id q4 q1 (List.take s l)=true->(q6<q3->q1<=q6/\q6<q3/\(q5->q1<=q6/\q6<q3)/\(q5->I64 (q6 - q0))/\(q5->q1<=q6 - q0/\q6 - q0<q3)/\(I64 q7->(q5->I64 q7)->(q5->I64 (l.getD (q6 - q0).toNat q2))->(bb q7 q0 q4=false\/q1<q6/\q7<=l.getD (q6 - q0).toNat q2->false=r0)/\(bb q7 q0 q4=true/\(q6<=q1\/l.getD (q6 - q0).toNat q2<q7)->I64 (q6+q0)/\∃ (s':Nat),(l=l/\q6+q0=(↑s':Int))/\(s' <= l.length/\az id q4 q1 (List.take s' l)=true)/\l.length - s' < l.length - s)))/\(q3<=q6->(decide (q0<=q3) && decide (q3<=(8:Int)))=r0)) (bb q7 q0 q4=true/\q1<q6)) (↑s:Int)) (l.getD s q2)) (1:Int)) (0:Int)) (dflt Sh.int)) (↑l.length:Int)) (64:Int)):=by kernel_rfl
theorem Si (l:List Int):Sat Tryz.prog (al tyT) 46 [.c (.fz .int (l))] [] ⟨[],[.c (.bool (.atom ((rowF l))))],none,false⟩:=by
 refine aJ eJ (Nv l) Tryz.func46 (by decide) (by kernel_rfl) ?_
 rw [Ra]
 iterate 3 ((all_goals (repeat' (first | with_reducible apply bu | with_reducible refine bw ?_ | intro))); (all_goals try (first | exact bT | exact rfl | exact (JZ ae aG (And.intro ae (by assumption))) | exact (LL aG (by assumption) ae) | exact (Ch ae aG))); all_goals try first | refine ⟨‹Nat› + 1,?_⟩ | refine ⟨0,?_⟩)
theorem KW (x:Int) (r0:Int):ck tyT nD [] Tryz.f12 [.c (.int (x))] [] [.c (.int (r0))]=(I64 x->(bb x (1:Int) (8:Int)=true->(1:Int)=r0)/\(bb x (1:Int) (8:Int)=false->(bb x (9:Int) (10:Int)=true->(2:Int)=r0)/\(bb x (9:Int) (10:Int)=false->(bb x (11:Int) (12:Int)=true->(3:Int)=r0)/\(bb x (11:Int) (12:Int)=false->(0:Int)=r0)))):=by kernel_rfl
theorem Lx (x:Int):Sat Tryz.prog (al tyT) 12 [.c (.int (x))] [] ⟨[],[.c (.int ((a_ x)))],none,false⟩:=by
 refine aJ eJ [] Tryz.func12 (by decide) (by kernel_rfl) ?_
 rw [KW]
 intro _
 by_cases h:1<=x/\x<=12
 ·rw [Mn h]; simp only [bb,Bool.and_eq_true,Bool.and_eq_false_iff,decide_eq_true_eq,decide_eq_false_iff_not]; (repeat' (first | with_reducible apply bu | with_reducible refine bw ?_ | intro)) <;> (repeat split) <;> omega
 ·rw [zd h]; exact ⟨fun h1=>absurd (qk h1) (by omega),fun _=>⟨fun h1=>absurd (qk h1) (by omega),fun _=>⟨fun h1=>absurd (qk h1) (by omega),fun _=>rfl⟩⟩⟩
theorem Dp (n:Int) (used:Bool) (lo:Int) (hi:Int) (r0:Bool):ck tyT nD [] Tryz.f45 [.c (.int (n)),.c (.bool (.atom (used))),.c (.int (lo)),.c (.int (hi))] [] [.c (.bool (.atom (r0)))]=(I64 n->I64 lo->I64 hi->(used=false->decide (n=(0:Int))=r0)/\(used=true->bb n lo hi=r0)):=by kernel_rfl
theorem FL (n:Int) (used:Bool) (lo:Int) (hi:Int):Sat Tryz.prog (al tyT) 45 [.c (.int (n)),.c (.bool (.atom (used))),.c (.int (lo)),.c (.int (hi))] [] ⟨[],[.c (.bool (.atom ((gr n used lo hi))))],none,false⟩:=by
 refine aJ eJ [] Tryz.func45 (by decide) (by kernel_rfl) ?_
 rw [Dp]
 grind [gr]
theorem Cb (st:State) (x:Int) (r0:Int):ck tyT nD (ud st x) Tryz.f68 [.agg (cellsOf (.nm .state) st),.c (.int (x))] [] [.c (.int (r0))]=((fun (q2:Int)=>(fun (q1:List Sess)=>(fun (q0:Prop)=>I64 st.version->I64 st.next->I64 st.keep->I64 st.quota->q1.length*(32:Nat)<=(140737488355328:Nat)->st.opens.length*(16:Nat)<=(140737488355328:Nat)->st.snaps.length*(64:Nat)<=(140737488355328:Nat)->I64 x->∃ (s0:Nat),(x=x/\(0:Int)=(↑s0:Int)/\q0)/\(s0<=q1.length/\ao Sess.client x (List.take s0 q1) = -q2)/\∀ (s:Nat),s<=q1.length/\ao Sess.client x (List.take s q1) = -q2->((↑s:Int)<(↑q1.length:Int)->(0:Int)<=(↑s:Int)/\(↑s:Int)<(↑q1.length:Int)/\∀ (x_1:Sess),q1[s]? = some x_1->I64 x_1.client->I64 x_1.seq->I64 x_1.last.code->I64 x_1.last.n->(x_1.client=x->(↑s:Int)=r0)/\(¬x_1.client=x->I64 ((↑s:Int)+q2)/\∃ (s':Nat),(x=x/\(↑s:Int)+q2=(↑s':Int)/\q0)/\(s' <= q1.length/\ao Sess.client x (List.take s' q1) = -q2)/\q1.length - s' < q1.length - s))/\((↑q1.length:Int)<=(↑s:Int) -> -q2=r0)) (st.version=st.version/\st.next=st.next/\st.keep=st.keep/\st.quota=st.quota/\q1=q1/\st.opens=st.opens/\st.snaps=st.snaps)) st.sess) (1:Int)):=by kernel_rfl
theorem BD (st:State) (x:Int):Sat Tryz.prog (al tyT) 68 [.agg (cellsOf (.nm .state) st),.c (.int (x))] [] ⟨[],[.c (.int ((ao Sess.client x st.sess)))],none,false⟩:=by
 refine aJ eJ (ud st x) Tryz.func68 (by decide) (by kernel_rfl) ?_
 rw [Cb]
 iterate 3 ((all_goals (repeat' (first | with_reducible apply bu | with_reducible refine bw ?_ | intro))); (all_goals try (first | exact bT | exact (jI (key:=Sess.client)) | exact (fy (key:=Sess.client) ae ae ae) | exact (gu (key:=Sess.client) ae aG) | exact (gK (key:=Sess.client) ae ae ae))); all_goals try first | refine ⟨‹Nat› + 1,?_⟩ | refine ⟨0,?_⟩)
theorem Cl (st:State) (x:Int) (r0:Int):ck tyT nD (uM st x) Tryz.f105 [.agg (cellsOf (.nm .state) st),.c (.int (x))] [] [.c (.int (r0))]=((fun (q2:Int)=>(fun (q1:List Opn)=>(fun (q0:Prop)=>I64 st.version->I64 st.next->I64 st.keep->I64 st.quota->st.sess.length*(32:Nat)<=(140737488355328:Nat)->q1.length*(16:Nat)<=(140737488355328:Nat)->st.snaps.length*(64:Nat)<=(140737488355328:Nat)->I64 x->∃ (s0:Nat),(x=x/\(0:Int)=(↑s0:Int)/\q0)/\(s0<=q1.length/\ao Opn.set x (List.take s0 q1) = -q2)/\∀ (s:Nat),s<=q1.length/\ao Opn.set x (List.take s q1) = -q2->((↑s:Int)<(↑q1.length:Int)->(0:Int)<=(↑s:Int)/\(↑s:Int)<(↑q1.length:Int)/\∀ (x_1:Opn),q1[s]? = some x_1->I64 x_1.set->I64 x_1.client->(x_1.set=x->(↑s:Int)=r0)/\(¬x_1.set=x->I64 ((↑s:Int)+q2)/\∃ (s':Nat),(x=x/\(↑s:Int)+q2=(↑s':Int)/\q0)/\(s' <= q1.length/\ao Opn.set x (List.take s' q1) = -q2)/\q1.length - s' < q1.length - s))/\((↑q1.length:Int)<=(↑s:Int) -> -q2=r0)) (st.version=st.version/\st.next=st.next/\st.keep=st.keep/\st.quota=st.quota/\st.sess=st.sess/\q1=q1/\st.snaps=st.snaps)) st.opens) (1:Int)):=by kernel_rfl
theorem Ba (st:State) (x:Int):Sat Tryz.prog (al tyT) 105 [.agg (cellsOf (.nm .state) st),.c (.int (x))] [] ⟨[],[.c (.int ((ao Opn.set x st.opens)))],none,false⟩:=by
 refine aJ eJ (uM st x) Tryz.func105 (by decide) (by kernel_rfl) ?_
 rw [Cl]
 iterate 3 ((all_goals (repeat' (first | with_reducible apply bu | with_reducible refine bw ?_ | intro))); (all_goals try (first | exact bT | exact (jI (key:=Opn.set)) | exact (fy (key:=Opn.set) ae ae ae) | exact (gu (key:=Opn.set) ae aG) | exact (gK (key:=Opn.set) ae ae ae))); all_goals try first | refine ⟨‹Nat› + 1,?_⟩ | refine ⟨0,?_⟩)
theorem Mv (st:State) (x:Int) (r0:Int):ck tyT nD (Ie st x) Tryz.f110 [.agg (cellsOf (.nm .state) st),.c (.int (x))] [] [.c (.int (r0))]=((fun (q2:Int)=>(fun (q1:List Snap)=>(fun (q0:Prop)=>I64 st.version->I64 st.next->I64 st.keep->I64 st.quota->st.sess.length*(32:Nat)<=(140737488355328:Nat)->st.opens.length*(16:Nat)<=(140737488355328:Nat)->q1.length*(64:Nat)<=(140737488355328:Nat)->I64 x->∃ (s0:Nat),(x=x/\(0:Int)=(↑s0:Int)/\q0)/\(s0<=q1.length/\ao Snap.id x (List.take s0 q1) = -q2)/\∀ (s:Nat),s<=q1.length/\ao Snap.id x (List.take s q1) = -q2->((↑s:Int)<(↑q1.length:Int)->(0:Int)<=(↑s:Int)/\(↑s:Int)<(↑q1.length:Int)/\∀ (x_1:Snap),q1[s]? = some x_1->I64 x_1.id->I64 x_1.set->x_1.chunks.length*(8:Nat)<=(140737488355328:Nat)->x_1.tag.b.length<=(140737488355328:Nat)->(x_1.id=x->(↑s:Int)=r0)/\(¬x_1.id=x->I64 ((↑s:Int)+q2)/\∃ (s':Nat),(x=x/\(↑s:Int)+q2=(↑s':Int)/\q0)/\(s' <= q1.length/\ao Snap.id x (List.take s' q1) = -q2)/\q1.length - s' < q1.length - s))/\((↑q1.length:Int)<=(↑s:Int) -> -q2=r0)) (st.version=st.version/\st.next=st.next/\st.keep=st.keep/\st.quota=st.quota/\st.sess=st.sess/\st.opens=st.opens/\q1=q1)) st.snaps) (1:Int)):=by kernel_rfl
theorem MZ (st:State) (x:Int):Sat Tryz.prog (al tyT) 110 [.agg (cellsOf (.nm .state) st),.c (.int (x))] [] ⟨[],[.c (.int ((ao Snap.id x st.snaps)))],none,false⟩:=by
 refine aJ eJ (Ie st x) Tryz.func110 (by decide) (by kernel_rfl) ?_
 rw [Mv]
 iterate 3 ((all_goals (repeat' (first | with_reducible apply bu | with_reducible refine bw ?_ | intro))); (all_goals try (first | exact bT | exact (jI (key:=Snap.id)) | exact (fy (key:=Snap.id) ae ae ae) | exact (gu (key:=Snap.id) ae aG) | exact (gK (key:=Snap.id) ae ae ae))); all_goals try first | refine ⟨‹Nat› + 1,?_⟩ | refine ⟨0,?_⟩)
theorem JP (st:State) (at_:Int) (r0:Bool):ck tyT nD (Jq st at_) Tryz.f159 [.agg (cellsOf (.nm .state) st),.c (.int (at_))] [] [.c (.bool (.atom (r0)))]=((fun (q8:Nat)=>(fun (q7:Int)=>(fun (q6:den (Sh.nm NT.snap))=>(fun (q5:Prop)=>(fun (q4:Nat)=>(fun (q3:List Snap)=>(fun (q2:den (Sh.nm NT.snap))=>(fun (q1:Int)=>(fun (q0:Prop)=>I64 st.version->I64 st.next->I64 st.keep->I64 st.quota->st.sess.length*(32:Nat)<=q8->st.opens.length*(16:Nat)<=q8->q3.length*(64:Nat)<=q8->I64 at_->(at_<(0:Int)\/(↑q3.length:Int)<=at_->false=r0)/\(q5/\at_<(↑q3.length:Int)->I64 q1/\∃ (s0:Nat),(fun (q11:Int)=>(fun (q10:Nat)=>(fun (q9:Nat)=>(at_=at_/\(0:Int)=dm st q4 s0/\q1=q1+(↑s0:Int)/\q0)/\(q10+s0<=q9/\q5)/\∀ (s:Nat),(fun (q13:Int)=>(fun (q12:Int)=>q10+s<=q9/\q5->(q12<q11->(0:Int)<=q12/\q12<q11/\q5/\at_<q11/\(I64 (q3.getD q12.toNat q6).id->I64 (q3.getD q12.toNat q6).set->(q3.getD q12.toNat q6).chunks.length*(8:Nat)<=q8->(q3.getD q12.toNat q6).tag.b.length<=q8->I64 q2.id->I64 q2.set->q2.chunks.length*(8:Nat)<=q8->q2.tag.b.length<=q8->((q3.getD q12.toNat q6).set=q2.set->I64 (q13+q7)/\I64 (q12+q7)/\∃ (s':Nat),(at_=at_/\q13+q7=dm st q4 s' /\ q12+q7=q1+(↑s':Int)/\q0)/\(q10+s' <= q9/\q5)/\q9 - s' < q9 - s)/\(¬(q3.getD q12.toNat q6).set=q2.set->I64 (q12+q7)/\∃ (s':Nat),(at_=at_/\q13=dm st q4 s' /\ q12+q7=q1+(↑s':Int)/\q0)/\(q10+s' <= q9/\q5)/\q9 - s' < q9 - s)))/\(q11<=q12->decide (q13<st.keep)=r0)) (q1+(↑s:Int))) (dm st q4 s)) q3.length) (q4+(1:Nat))) (↑q3.length:Int))) (st.version=st.version/\st.next=st.next/\st.keep=st.keep/\st.quota=st.quota/\st.sess=st.sess/\st.opens=st.opens/\q3=q3)) (at_+q7)) (q3.getD q4 q6)) st.snaps) at_.toNat) ((0:Int)<=at_)) (dflt (Sh.nm NT.snap))) (1:Int)) (140737488355328:Nat)):=by kernel_rfl
theorem LP (st:State) (at_:Int):Sat Tryz.prog (al tyT) 159 [.agg (cellsOf (.nm .state) st),.c (.int (at_))] [] ⟨[],[.c (.bool (.atom ((fN st at_))))],none,false⟩:=by
 refine aJ eJ (Jq st at_) Tryz.func159 (by decide) (by kernel_rfl) ?_
 rw [JP]
 iterate 3 ((all_goals (repeat' (first | with_reducible apply bu | with_reducible refine bw ?_ | intro))); (all_goals try (first | exact bT | exact Gh | exact (uv (by assumption)) | exact (Eh aG aG) | exact (wC aG aG aG) | exact (EE (Ad aG aG) ae) | exact (Ic (Ad aG aG) ae))); all_goals try first | refine ⟨‹Nat› + 1,?_⟩ | refine ⟨0,?_⟩)
theorem S_ (st:State) (at_:Int) (r0:Bool):ck tyT nD (Nj st at_) Tryz.f182 [.agg (cellsOf (.nm .state) st),.c (.int (at_))] [] [.c (.bool (.atom (r0)))]=((fun (q8:Int)=>(fun (q7:Nat)=>(fun (q6:den (Sh.nm NT.snap))=>(fun (q5:Int)=>(fun (q4:Prop)=>(fun (q3:Nat)=>(fun (q2:List Snap)=>(fun (q1:Nat)=>(fun (q0:Prop)=>I64 st.version->I64 st.next->I64 st.keep->I64 st.quota->st.sess.length*(32:Nat)<=q7->st.opens.length*(16:Nat)<=q7->q2.length*(64:Nat)<=q7->I64 at_->(at_<q8\/(↑q2.length:Int)<=at_->false=r0)/\(q4/\at_<(↑q2.length:Int)->I64 (at_+q5)/\q8<=at_+q5/\at_+q5<=(↑q2.length:Int)/\∃ (s0:Nat),(fun (q13:Nat)=>(fun (q12:Nat)=>(fun (q11:den (Sh.nm NT.snap))=>(fun (q10:List (den (Sh.nm NT.snap)))=>(fun (q9:Int)=>(at_=at_/\q8=dm st q3 s0/\q10=q10/\(↑q10.length:Int)=q9/\q8=(↑s0:Int)/\q0)/\(q13+s0<=q12/\q4)/\∀ (s:Nat),(fun (q15:Int)=>(fun (q14:Int)=>q13+s<=q12/\q4->((↑s:Int)<q9->q8<=(↑s:Int)/\(↑s:Int)<(↑q10.length:Int)/\∀ (x:Snap),q10[s]? = some x->I64 x.id->I64 x.set->x.chunks.length*(8:Nat)<=q7->x.tag.b.length<=q7->q4/\at_<(↑q2.length:Int)/\(I64 q11.id->I64 q11.set->q11.chunks.length*(8:Nat)<=q7->q11.tag.b.length<=q7->(x.set=q11.set->I64 (q15+q5)/\I64 q14/\∃ (s':Nat),(at_=at_/\q15+q5=dm st q3 s' /\ q10=q10/\q9=q9/\q14=(↑s':Int)/\q0)/\(q13+s' <= q12/\q4)/\q12 - s' < q12 - s)/\(¬x.set=q11.set->I64 q14/\∃ (s':Nat),(at_=at_/\q15=dm st q3 s' /\ q10=q10/\q9=q9/\q14=(↑s':Int)/\q0)/\(q13+s' <= q12/\q4)/\q12 - s' < q12 - s)))/\(q9<=(↑s:Int)->decide (q15<st.keep)=r0)) ((↑s:Int)+q5)) (dm st q3 s)) (↑(List.drop q1 q2).length:Int)) (List.drop q1 q2)) (q2.getD q3 q6)) q2.length) (q3+(1:Nat)))) (st.version=st.version/\st.next=st.next/\st.keep=st.keep/\st.quota=st.quota/\st.sess=st.sess/\st.opens=st.opens/\q2=q2)) (at_+q5).toNat) st.snaps) at_.toNat) (q8<=at_)) (1:Int)) (dflt (Sh.nm NT.snap))) (140737488355328:Nat)) (0:Int)):=by kernel_rfl
theorem Sa (st:State) (at_:Int):Sat Tryz.prog (al tyT) 182 [.agg (cellsOf (.nm .state) st),.c (.int (at_))] [] ⟨[],[.c (.bool (.atom ((fN st at_))))],none,false⟩:=by
 refine aJ eJ (Nj st at_) Tryz.func182 (by decide) (by kernel_rfl) ?_
 rw [S_]
 iterate 3 ((all_goals (repeat' (first | with_reducible apply bu | with_reducible refine bw ?_ | intro))); (all_goals try (first | exact bT | exact Gh | exact (uv (by assumption)) | exact (Eh aG aG) | exact (wC aG aG (by rw [List.length_drop] at *; omega)) | exact (EE (by rw [show (at_+1).toNat=at_.toNat+1 by omega] at *; assumption) ae) | exact (by have:=‹_<((List.length (List.drop _ _):Nat):Int)›; rw [List.length_drop] at this; omega) | exact (Ic (by rw [show (at_+1).toNat=at_.toNat+1 by omega] at *; assumption) ae))); all_goals try first | refine ⟨‹Nat› + 1,?_⟩ | refine ⟨0,?_⟩)
theorem Dz (l:List Snap) (c:Int) (r0:Int):ck tyT nD (AP l c) Tryz.f158 [.c (.fz (.nm .snap) (l)),.c (.int (c))] [] [.c (.int (r0))]=((fun (q4:Int)=>(fun (q3:Int)=>(fun (q2:Int)=>(fun (q1:Nat)=>(fun (q0:den (Sh.nm NT.snap))=>l.length*(64:Nat)<=(140737488355328:Nat)->I64 c->∃ (s0:Nat),(l=l/\c=c/\q3=(↑(cg c (List.take s0 l)):Int)/\q3=(↑s0:Int))/\s0<=q1/\∀ (s:Nat),s<=q1->((↑s:Int)<q4->∃ (s0:Nat × Nat),(fun (q5:Nat)=>(l=l/\c=c/\(↑(cg c (List.take s l)):Int)=(↑(cg c (List.take q5 l)+List.count c (List.take s0.snd (l.getD q5 q0).chunks)):Int)/\(↑s:Int)=(↑q5:Int)/\q3=(↑s0.snd:Int))/\(q5<q1/\s0.snd<=(l.getD q5 q0).chunks.length)/\q5=q5/\∀ (s_1:Nat × Nat),(fun (q9:List Int)=>(fun (q8:Int)=>(fun (q7:Int)=>(fun (q6:Int)=>s_1.fst<q1/\s_1.snd<=q9.length->s_1.fst=q5->q3<=q7/\q7<q4/\∀ (x:Snap),l[s_1.fst]? = some x->I64 x.id->I64 x.set->x.chunks.length*(8:Nat)<=(140737488355328:Nat)->x.tag.b.length<=(140737488355328:Nat)->(q8<(↑x.chunks.length:Int)->q3<=q7/\q7<q4/\∀ (x:Snap),l[s_1.fst]? = some x->I64 x.id->I64 x.set->x.chunks.length*(8:Nat)<=(140737488355328:Nat)->x.tag.b.length<=(140737488355328:Nat)->q3<=q8/\q8<(↑x.chunks.length:Int)/\∀ (x_1:Int),x.chunks[s_1.snd]? = some x_1->I64 x_1->(x_1=c->I64 (q6+q2)/\I64 (q8+q2)/\∃ (s':Nat × Nat),(fun (q10:List Int)=>(l=l/\c=c/\q6+q2=(↑(cg c (List.take s'.fst l)+List.count c (List.take s'.snd q10)):Int)/\q7=(↑s'.fst:Int)/\q8+q2=(↑s'.snd:Int))/\(s'.fst<q1/\s'.snd<=q10.length)/\s'.fst=q5/\q10.length - s'.snd<q9.length - s_1.snd) (l.getD s'.fst q0).chunks)/\(¬x_1=c->I64 (q8+q2)/\∃ (s':Nat × Nat),(fun (q11:List Int)=>(l=l/\c=c/\q6=(↑(cg c (List.take s'.fst l)+List.count c (List.take s'.snd q11)):Int)/\q7=(↑s'.fst:Int)/\q8+q2=(↑s'.snd:Int))/\(s'.fst<q1/\s'.snd<=q11.length)/\s'.fst=q5/\q11.length - s'.snd<q9.length - s_1.snd) (l.getD s'.fst q0).chunks))/\((↑x.chunks.length:Int)<=q8->I64 (q7+q2)/\∃ (s':Nat),(l=l/\c=c/\q6=(↑(cg c (List.take s' l)):Int)/\q7+q2=(↑s':Int))/\s' <= q1/\q1 - s' < q1 - s)) (↑(cg c (List.take s_1.fst l)+List.count c (List.take s_1.snd q9)):Int)) (↑s_1.fst:Int)) (↑s_1.snd:Int)) (l.getD s_1.fst q0).chunks) s0.fst)/\(q4<=(↑s:Int)->(↑(cg c (List.take s l)):Int)=r0)) (dflt (Sh.nm NT.snap))) l.length) (1:Int)) (0:Int)) (↑l.length:Int)):=by kernel_rfl
theorem HU (l:List Snap) (c:Int) (h0:nch l<=1048576):Sat Tryz.prog (al tyT) 158 [.c (.fz (.nm .snap) (l)),.c (.int (c))] [] ⟨[nch l<=1048576],[.c (.int (((cg c l:Int))))],none,false⟩:=by
 refine aJ eJ (AP l c) Tryz.func158 (by decide) (by kernel_rfl) ?_
 rw [Dz]
 (repeat' (first | with_reducible apply bu | with_reducible refine bw ?_ | intro))
 all_goals try (refine ⟨0,?_⟩; (repeat' (first | with_reducible apply bu | with_reducible refine bw ?_ | intro)))
 all_goals try (refine ⟨(‹Nat›,0),?_⟩; (repeat' (first | with_reducible apply bu | with_reducible refine bw ?_ | intro)))
 all_goals try (refine ⟨(‹Nat × Nat›.1,‹Nat × Nat›.2+1),?_⟩; (repeat' (first | with_reducible apply bu | with_reducible refine bw ?_ | intro)))
 all_goals try (refine ⟨‹Nat × Nat›.1+1,?_⟩; (repeat' (first | with_reducible apply bu | with_reducible refine bw ?_ | intro)))
 all_goals (first | exact bT | exact UX | exact OL | exact (WL ae ae) | exact (Ul ae ae ae) | exact (Wz ae ae ae) | exact (Va ae ae) | exact (Ty ae ae) | exact (Vu ae ae) | exact (TB aG) | exact (Ug ae ae ae) | exact (Uz ae aG))
theorem yn (l:List Snap) (id:Int) (r0:List Snap):ck tyT nD (qG l id) Tryz.f161 [.c (.fz (.nm .snap) (l)),.c (.int (id))] [] [.c (.fz (.nm .snap) (r0))]=((fun (q2:Int)=>(fun (q1:Nat)=>(fun (q0:Nat)=>l.length*(64:Nat)<=q1->I64 id->∃ (s0:Nat),(l=l/\id=id/\(0:Int)=(↑s0:Int)/\aO id (List.take s0 l)=[])/\s0<=q0/\∀ (s:Nat),(fun (q4:List Snap)=>(fun (q3:Int)=>s<=q0->((↑s:Int)<q2->(0:Int)<=(↑s:Int)/\(↑s:Int)<q2/\∀ (x:Snap),l[s]? = some x->I64 x.id->I64 x.set->x.chunks.length*(8:Nat)<=q1->x.tag.b.length<=q1->(¬x.id=id->(0:Int)<=(↑s:Int)/\(↑s:Int)<q2/\∀ (x:Snap),l[s]? = some x->I64 x.id->I64 x.set->x.chunks.length*(8:Nat)<=q1->x.tag.b.length<=q1->(q4.length+[x].length)*(64:Nat)<=q1/\I64 q3/\∃ (s':Nat),(l=l/\id=id/\q3=(↑s':Int)/\q4++[x]=aO id (List.take s' l))/\s' <= q0/\q0 - s' < q0 - s)/\(x.id=id->I64 q3/\∃ (s':Nat),(l=l/\id=id/\q3=(↑s':Int)/\q4=aO id (List.take s' l))/\s' <= q0/\q0 - s' < q0 - s))/\(q2<=(↑s:Int)->q4=r0)) ((↑s:Int)+(1:Int))) (aO id (List.take s l))) l.length) (140737488355328:Nat)) (↑l.length:Int)):=by kernel_rfl
theorem xW (l:List Snap) (id:Int):Sat Tryz.prog (al tyT) 161 [.c (.fz (.nm .snap) (l)),.c (.int (id))] [] ⟨[],[.c (.fz (.nm .snap) ((aO id l)))],none,false⟩:=by
 refine aJ eJ (qG l id) Tryz.func161 (by decide) (by kernel_rfl) ?_
 rw [yn]
 iterate 3 ((all_goals (repeat' (first | with_reducible apply bu | with_reducible refine bw ?_ | intro))); (all_goals try (first | exact bT | exact rfl | exact (GU ae ae ae) | exact (Gc ae ae) | exact (xH aG) | exact (xJ aG aG))); all_goals try first | refine ⟨‹Nat› + 1,?_⟩ | refine ⟨0,?_⟩)
def tj:cO:=(bq 161 (bm (ah (kC (cL (.nm .snap))) (ah (kC cI) aH)) aI fun (l,id,_) (_)=>⟨[],[.c (.fz (.nm .snap) ((aO id l)))],none,false⟩) (bq 158 (bm (ah (kC (cL (.nm .snap))) (ah (kC cI) aH)) aI fun (l,c,_) (_)=>⟨[nch l<=1048576],[.c (.int (((cg c l:Int))))],none,false⟩) (bq 182 (bm (ah (kT (.nm .state)) (ah (kC cI) aH)) aI fun (st,at_,_) (_)=>⟨[],[.c (.bool (.atom ((fN st at_))))],none,false⟩) (bq 159 (bm (ah (kT (.nm .state)) (ah (kC cI) aH)) aI fun (st,at_,_) (_)=>⟨[],[.c (.bool (.atom ((fN st at_))))],none,false⟩) (bq 110 (bm (ah (kT (.nm .state)) (ah (kC cI) aH)) aI fun (st,x,_) (_)=>⟨[],[.c (.int ((ao Snap.id x st.snaps)))],none,false⟩) (bq 105 (bm (ah (kT (.nm .state)) (ah (kC cI) aH)) aI fun (st,x,_) (_)=>⟨[],[.c (.int ((ao Opn.set x st.opens)))],none,false⟩) (bq 68 (bm (ah (kT (.nm .state)) (ah (kC cI) aH)) aI fun (st,x,_) (_)=>⟨[],[.c (.int ((ao Sess.client x st.sess)))],none,false⟩) (bq 45 (bm (ah (kC cI) (ah (kC cB) (ah (kC cI) (ah (kC cI) aH)))) aI fun (n,used,lo,hi,_) (_)=>⟨[],[.c (.bool (.atom ((gr n used lo hi))))],none,false⟩) (bq 12 (bm (ah (kC cI) aH) aI fun (x,_) (_)=>⟨[],[.c (.int ((a_ x)))],none,false⟩) (bq 46 (bm (ah (kC (cL .int)) aH) aI fun (l,_) (_)=>⟨[],[.c (.bool (.atom ((rowF l))))],none,false⟩) nD))))))))))
theorem fX:aW Tryz.prog (al tyT) tj:=(au (av (ab (aq aY) (ab (aq ay) ai)) aj fun (l,id,_) (_) _=>xW l id ) (au (av (ab (aq aY) (ab (aq ay) ai)) aj fun (l,c,_) (_) hp=>HU l c (cY hp)) (au (av (ab aZ (ab (aq ay) ai)) aj fun (st,at_,_) (_) _=>Sa st at_ ) (au (av (ab aZ (ab (aq ay) ai)) aj fun (st,at_,_) (_) _=>LP st at_ ) (au (av (ab aZ (ab (aq ay) ai)) aj fun (st,x,_) (_) _=>MZ st x ) (au (av (ab aZ (ab (aq ay) ai)) aj fun (st,x,_) (_) _=>Ba st x ) (au (av (ab aZ (ab (aq ay) ai)) aj fun (st,x,_) (_) _=>BD st x ) (au (av (ab (aq ay) (ab (aq lN) (ab (aq ay) (ab (aq ay) ai)))) aj fun (n,used,lo,hi,_) (_) _=>FL n used lo hi ) (au (av (ab (aq ay) ai) aj fun (x,_) (_) _=>Lx x ) (au (av (ab (aq aY) ai) aj fun (l,_) (_) _=>Si l ) eJ))))))))))
end Go.Proofs.YtladifkbefehdaaGreat
