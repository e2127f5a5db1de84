/- What is told of turnstone/turnstonelaw09.LagOwed, shown. -/
import Derived.Test.YthlcpdjpnbbaeaaGreatDoorTab
import Derived.Test.YthlcpdjpnbbaeaaGreatDoorFm3
import Derived.Test.YthlcpdjpnbbaeaaGreatDoorSyAwake5
namespace Go.Proofs.YthlcpdjpnbbaeaaGreatDoor.Fn
open Go Go.RowKit Go.Proofs.YthlcpdjpnbbaeaaGreatDoor.Sy
set_option linter.unusedVariables false
set_option linter.unusedSimpArgs false
set_option maxRecDepth 100000
open Go.Proofs.YthlcpdjpnbbaeaaGreatDoor.Awake
def t3 : Tr :=
  .br (.f (.is (.lt (.n 40) (.len 0 6)) true) <|
   .ok [.tru (.le (.n 0) (.n 0))])
  (.f (.is (.lt (.n 40) (.len 0 6)) false) <|
   .br (.f (.is (.lt (.v 0 4) (.n 0)) true) <|
    .ok [.tru (.le (.n 0) (.n 0))])
   (.f (.is (.lt (.v 0 4) (.n 0)) false) <|
    .br (.f (.is (.lt (.n 1000) (.v 0 4)) true) <|
     .ok [.tru (.le (.n 0) (.n 0))])
    (.f (.is (.lt (.n 1000) (.v 0 4)) false) <|
     .br (.f (.is (.lt (.n 0) (.len 0 6)) true) <|
      .br (.f (.rel 100308 [.num (.v 0 0), .num (.v 0 1), .num (.v 0 2), .num (.v 0 3), .num (.v 0 4), .num (.v 0 5), .lst 0 6, .rows [], .tru (.le (.len 0 6) (.n 32)), .num (.n 0)] 65566 [.list [.int .i64], .bool, .int .i64]) <|
       .br (.f (.is (.lt (.v 65566 2) (.len 0 6)) false) <|
        .br (.f (.rel 16 [.num (.v 0 5), .lst 0 6] 65570 [.int .u64, .int .i64, .int .u64, .int .u64, .int .i64, .bool]) <|
         .br (.f (.rel 18 [.num (.v 0 0), .num (.v 0 1), .num (.v 0 2), .num (.v 0 3), .num (.v 0 4), .lst 0 6] 65579 [.list [.int .i64]]) <|
          .f (.rel 17 [.lst 65579 0, .lst 65566 0] 65581 [.bool]) <|
           .br (.f (.is (.v 65581 0) true) <|
            .br (.f (.is (.v 65566 1) false) <|
             .br (.f (.rel 18 [.num (.v 0 0), .num (.v 0 1), .num (.v 0 2), .num (.v 0 3), .num (.v 0 4), .rows []] 65598 [.list [.int .i64]]) <|
              .ok [.tru (.eq (.len 65598 0) (.n 0))])
             (.f (.npre 18 [.num (.v 0 0), .num (.v 0 1), .num (.v 0 2), .num (.v 0 3), .num (.v 0 4), .rows []]) <|
              .bad))
            (.f (.is (.v 65566 1) true) <|
             .br (.f (.is (.v 65570 5) true) <|
              .br (.f (.rel 18 [.num (.v 65570 0), .num (.v 65570 1), .num (.v 65570 2), .num (.v 65570 3), .num (.v 65570 4), .lst 0 6] 65590 [.list [.int .i64]]) <|
               .br (.f (.is (.lt (.n 0) (.len 65590 0)) true) <|
                .br (.f (.rel 18 [.num (.v 0 0), .num (.v 0 1), .num (.v 0 2), .num (.v 0 3), .num (.v 0 4), .rows []] 65598 [.list [.int .i64]]) <|
                 .ok [.tru (.eq (.len 65598 0) (.n 0))])
                (.f (.npre 18 [.num (.v 0 0), .num (.v 0 1), .num (.v 0 2), .num (.v 0 3), .num (.v 0 4), .rows []]) <|
                 .bad))
               (.f (.is (.lt (.n 0) (.len 65590 0)) false) <|
                .ok [.tru (.lt (.n 0) (.n 0))]))
              (.f (.npre 18 [.num (.v 65570 0), .num (.v 65570 1), .num (.v 65570 2), .num (.v 65570 3), .num (.v 65570 4), .lst 0 6]) <|
               .bad))
             (.f (.is (.v 65570 5) false) <|
              .ok [.tru (.lt (.n 0) (.n 0))])))
           (.f (.is (.v 65581 0) false) <|
            .ok [.tru (.lt (.n 0) (.n 0))]))
         (.f (.npre 18 [.num (.v 0 0), .num (.v 0 1), .num (.v 0 2), .num (.v 0 3), .num (.v 0 4), .lst 0 6]) <|
          .bad))
        (.f (.npre 16 [.num (.v 0 5), .lst 0 6]) <|
         .bad))
       (.f (.is (.lt (.v 65566 2) (.len 0 6)) true) <|
        .br (.f (.is (.lt (.v 65566 2) (.n 0)) true) <|
         .bad)
        (.f (.is (.lt (.v 65566 2) (.n 0)) false) <|
         .br (.f (.npre 11 [.num (.v 0 0), .num (.v 0 1), .num (.v 0 2), .num (.v 0 3), .num (.v 0 4)]) <|
          .bad)
         (.f (.rel 11 [.num (.v 0 0), .num (.v 0 1), .num (.v 0 2), .num (.v 0 3), .num (.v 0 4)] 65575 [.int .u64, .bool, .list [.int .i64], .int .u64, .int .i64]) <|
          .br (.f (.npre 12 [.num (.at 0 6 (.v 65566 2) 0), .num (.at 0 6 (.v 65566 2) 1), .num (.at 0 6 (.v 65566 2) 2)]) <|
           .bad)
          (.f (.rel 12 [.num (.at 0 6 (.v 65566 2) 0), .num (.at 0 6 (.v 65566 2) 1), .num (.at 0 6 (.v 65566 2) 2)] 65577 [.int .u64, .int .u32, .int .u32]) <|
           .br (.f (.npre 10 [.num (.v 65575 0), .tru (.v 65575 1), .lst 65575 2, .num (.v 65575 3), .num (.v 65575 4), .num (.v 65577 0), .num (.v 65577 1), .num (.v 65577 2)]) <|
            .bad)
           (.f (.rel 10 [.num (.v 65575 0), .tru (.v 65575 1), .lst 65575 2, .num (.v 65575 3), .num (.v 65575 4), .num (.v 65577 0), .num (.v 65577 1), .num (.v 65577 2)] 65578 [.bool, .list [.int .i64], .bool]) <|
            .br (.f (.is (.v 65578 2) true) <|
             .br (.f (.npre 13 [.tru (.v 65578 0), .lst 65578 1]) <|
              .bad)
             (.f (.rel 13 [.tru (.v 65578 0), .lst 65578 1] 65588 [.int .i64]) <|
              .br (.f (.is (.le (.n 0) (.v 65588 0)) true) <|
               .br (.f (.is (.le (.len 65566 0) (.n 1000000000)) false) <|
                .bad)
               (.f (.is (.le (.len 65566 0) (.n 1000000000)) true) <|
                .f (.lseq 65594 (.app (.lst 65566 0) (.rows [[.v 65566 2]]))) <|
                 .f (.rel 14 [.num (.at 0 6 (.v 65566 2) 0), .num (.v 0 5)] 65599 [.int .i64]) <|
                  .br (.f (.is (.v 65566 1) true) <|
                   .f (.rel 15 [.num (.at 0 6 (.v 65566 2) 0), .num (.at 0 6 (.v 65566 2) 1), .num (.at 0 6 (.v 65566 2) 2)] 65604 [.bool]) <|
                    .br (.f (.is (.v 65604 0) true) <|
                     .br (.f (.is (.lt (.n (-1152921504606846976)) (.v 65599 0)) true) <|
                      .br (.f (.nrel 100308 [.num (.v 0 0), .num (.v 0 1), .num (.v 0 2), .num (.v 0 3), .num (.v 0 4), .num (.v 0 5), .lst 0 6, .rows [], .tru (.le (.len 0 6) (.n 32)), .num (.n 0)] [.lst 65594 0, .tru (.lt (.v 65599 0) (.n 1152921504606846976)), .num (.wrap .i64 (.bin .add (.v 65566 2) (.n 1)))]) <|
                       .bad)
                      (.f (.ndec 100308 [.num (.v 0 0), .num (.v 0 1), .num (.v 0 2), .num (.v 0 3), .num (.v 0 4), .num (.v 0 5), .lst 0 6, .rows [], .tru (.le (.len 0 6) (.n 32)), .num (.n 0)] [.lst 65566 0, .tru (.v 65566 1), .num (.v 65566 2)] [.lst 65594 0, .tru (.lt (.v 65599 0) (.n 1152921504606846976)), .num (.wrap .i64 (.bin .add (.v 65566 2) (.n 1)))]) <|
                       .bad))
                     (.f (.is (.lt (.n (-1152921504606846976)) (.v 65599 0)) false) <|
                      .br (.f (.nrel 100308 [.num (.v 0 0), .num (.v 0 1), .num (.v 0 2), .num (.v 0 3), .num (.v 0 4), .num (.v 0 5), .lst 0 6, .rows [], .tru (.le (.len 0 6) (.n 32)), .num (.n 0)] [.lst 65594 0, .tru (.lt (.n 0) (.n 0)), .num (.wrap .i64 (.bin .add (.v 65566 2) (.n 1)))]) <|
                       .bad)
                      (.f (.ndec 100308 [.num (.v 0 0), .num (.v 0 1), .num (.v 0 2), .num (.v 0 3), .num (.v 0 4), .num (.v 0 5), .lst 0 6, .rows [], .tru (.le (.len 0 6) (.n 32)), .num (.n 0)] [.lst 65566 0, .tru (.v 65566 1), .num (.v 65566 2)] [.lst 65594 0, .tru (.lt (.n 0) (.n 0)), .num (.wrap .i64 (.bin .add (.v 65566 2) (.n 1)))]) <|
                       .bad)))
                    (.f (.is (.v 65604 0) false) <|
                     .br (.f (.nrel 100308 [.num (.v 0 0), .num (.v 0 1), .num (.v 0 2), .num (.v 0 3), .num (.v 0 4), .num (.v 0 5), .lst 0 6, .rows [], .tru (.le (.len 0 6) (.n 32)), .num (.n 0)] [.lst 65594 0, .tru (.lt (.n 0) (.n 0)), .num (.wrap .i64 (.bin .add (.v 65566 2) (.n 1)))]) <|
                      .bad)
                     (.f (.ndec 100308 [.num (.v 0 0), .num (.v 0 1), .num (.v 0 2), .num (.v 0 3), .num (.v 0 4), .num (.v 0 5), .lst 0 6, .rows [], .tru (.le (.len 0 6) (.n 32)), .num (.n 0)] [.lst 65566 0, .tru (.v 65566 1), .num (.v 65566 2)] [.lst 65594 0, .tru (.lt (.n 0) (.n 0)), .num (.wrap .i64 (.bin .add (.v 65566 2) (.n 1)))]) <|
                      .bad)))
                  (.f (.is (.v 65566 1) false) <|
                   .br (.f (.nrel 100308 [.num (.v 0 0), .num (.v 0 1), .num (.v 0 2), .num (.v 0 3), .num (.v 0 4), .num (.v 0 5), .lst 0 6, .rows [], .tru (.le (.len 0 6) (.n 32)), .num (.n 0)] [.lst 65594 0, .tru (.lt (.n 0) (.n 0)), .num (.wrap .i64 (.bin .add (.v 65566 2) (.n 1)))]) <|
                    .bad)
                   (.f (.ndec 100308 [.num (.v 0 0), .num (.v 0 1), .num (.v 0 2), .num (.v 0 3), .num (.v 0 4), .num (.v 0 5), .lst 0 6, .rows [], .tru (.le (.len 0 6) (.n 32)), .num (.n 0)] [.lst 65566 0, .tru (.v 65566 1), .num (.v 65566 2)] [.lst 65594 0, .tru (.lt (.n 0) (.n 0)), .num (.wrap .i64 (.bin .add (.v 65566 2) (.n 1)))]) <|
                    .bad))))
              (.f (.is (.le (.n 0) (.v 65588 0)) false) <|
               .f (.rel 14 [.num (.at 0 6 (.v 65566 2) 0), .num (.v 0 5)] 65594 [.int .i64]) <|
                .br (.f (.is (.v 65566 1) true) <|
                 .f (.rel 15 [.num (.at 0 6 (.v 65566 2) 0), .num (.at 0 6 (.v 65566 2) 1), .num (.at 0 6 (.v 65566 2) 2)] 65599 [.bool]) <|
                  .br (.f (.is (.v 65599 0) true) <|
                   .br (.f (.is (.lt (.n (-1152921504606846976)) (.v 65594 0)) true) <|
                    .br (.f (.nrel 100308 [.num (.v 0 0), .num (.v 0 1), .num (.v 0 2), .num (.v 0 3), .num (.v 0 4), .num (.v 0 5), .lst 0 6, .rows [], .tru (.le (.len 0 6) (.n 32)), .num (.n 0)] [.lst 65566 0, .tru (.lt (.v 65594 0) (.n 1152921504606846976)), .num (.wrap .i64 (.bin .add (.v 65566 2) (.n 1)))]) <|
                     .bad)
                    (.f (.ndec 100308 [.num (.v 0 0), .num (.v 0 1), .num (.v 0 2), .num (.v 0 3), .num (.v 0 4), .num (.v 0 5), .lst 0 6, .rows [], .tru (.le (.len 0 6) (.n 32)), .num (.n 0)] [.lst 65566 0, .tru (.v 65566 1), .num (.v 65566 2)] [.lst 65566 0, .tru (.lt (.v 65594 0) (.n 1152921504606846976)), .num (.wrap .i64 (.bin .add (.v 65566 2) (.n 1)))]) <|
                     .bad))
                   (.f (.is (.lt (.n (-1152921504606846976)) (.v 65594 0)) false) <|
                    .br (.f (.nrel 100308 [.num (.v 0 0), .num (.v 0 1), .num (.v 0 2), .num (.v 0 3), .num (.v 0 4), .num (.v 0 5), .lst 0 6, .rows [], .tru (.le (.len 0 6) (.n 32)), .num (.n 0)] [.lst 65566 0, .tru (.lt (.n 0) (.n 0)), .num (.wrap .i64 (.bin .add (.v 65566 2) (.n 1)))]) <|
                     .bad)
                    (.f (.ndec 100308 [.num (.v 0 0), .num (.v 0 1), .num (.v 0 2), .num (.v 0 3), .num (.v 0 4), .num (.v 0 5), .lst 0 6, .rows [], .tru (.le (.len 0 6) (.n 32)), .num (.n 0)] [.lst 65566 0, .tru (.v 65566 1), .num (.v 65566 2)] [.lst 65566 0, .tru (.lt (.n 0) (.n 0)), .num (.wrap .i64 (.bin .add (.v 65566 2) (.n 1)))]) <|
                     .bad)))
                  (.f (.is (.v 65599 0) false) <|
                   .br (.f (.nrel 100308 [.num (.v 0 0), .num (.v 0 1), .num (.v 0 2), .num (.v 0 3), .num (.v 0 4), .num (.v 0 5), .lst 0 6, .rows [], .tru (.le (.len 0 6) (.n 32)), .num (.n 0)] [.lst 65566 0, .tru (.lt (.n 0) (.n 0)), .num (.wrap .i64 (.bin .add (.v 65566 2) (.n 1)))]) <|
                    .bad)
                   (.f (.ndec 100308 [.num (.v 0 0), .num (.v 0 1), .num (.v 0 2), .num (.v 0 3), .num (.v 0 4), .num (.v 0 5), .lst 0 6, .rows [], .tru (.le (.len 0 6) (.n 32)), .num (.n 0)] [.lst 65566 0, .tru (.v 65566 1), .num (.v 65566 2)] [.lst 65566 0, .tru (.lt (.n 0) (.n 0)), .num (.wrap .i64 (.bin .add (.v 65566 2) (.n 1)))]) <|
                    .bad)))
                (.f (.is (.v 65566 1) false) <|
                 .br (.f (.nrel 100308 [.num (.v 0 0), .num (.v 0 1), .num (.v 0 2), .num (.v 0 3), .num (.v 0 4), .num (.v 0 5), .lst 0 6, .rows [], .tru (.le (.len 0 6) (.n 32)), .num (.n 0)] [.lst 65566 0, .tru (.lt (.n 0) (.n 0)), .num (.wrap .i64 (.bin .add (.v 65566 2) (.n 1)))]) <|
                  .bad)
                 (.f (.ndec 100308 [.num (.v 0 0), .num (.v 0 1), .num (.v 0 2), .num (.v 0 3), .num (.v 0 4), .num (.v 0 5), .lst 0 6, .rows [], .tru (.le (.len 0 6) (.n 32)), .num (.n 0)] [.lst 65566 0, .tru (.v 65566 1), .num (.v 65566 2)] [.lst 65566 0, .tru (.lt (.n 0) (.n 0)), .num (.wrap .i64 (.bin .add (.v 65566 2) (.n 1)))]) <|
                  .bad)))))
            (.f (.is (.v 65578 2) false) <|
             .f (.rel 14 [.num (.at 0 6 (.v 65566 2) 0), .num (.v 0 5)] 65594 [.int .i64]) <|
              .br (.f (.is (.v 65566 1) true) <|
               .f (.rel 15 [.num (.at 0 6 (.v 65566 2) 0), .num (.at 0 6 (.v 65566 2) 1), .num (.at 0 6 (.v 65566 2) 2)] 65599 [.bool]) <|
                .br (.f (.is (.v 65599 0) true) <|
                 .br (.f (.is (.lt (.n (-1152921504606846976)) (.v 65594 0)) true) <|
                  .br (.f (.nrel 100308 [.num (.v 0 0), .num (.v 0 1), .num (.v 0 2), .num (.v 0 3), .num (.v 0 4), .num (.v 0 5), .lst 0 6, .rows [], .tru (.le (.len 0 6) (.n 32)), .num (.n 0)] [.lst 65566 0, .tru (.lt (.v 65594 0) (.n 1152921504606846976)), .num (.wrap .i64 (.bin .add (.v 65566 2) (.n 1)))]) <|
                   .bad)
                  (.f (.ndec 100308 [.num (.v 0 0), .num (.v 0 1), .num (.v 0 2), .num (.v 0 3), .num (.v 0 4), .num (.v 0 5), .lst 0 6, .rows [], .tru (.le (.len 0 6) (.n 32)), .num (.n 0)] [.lst 65566 0, .tru (.v 65566 1), .num (.v 65566 2)] [.lst 65566 0, .tru (.lt (.v 65594 0) (.n 1152921504606846976)), .num (.wrap .i64 (.bin .add (.v 65566 2) (.n 1)))]) <|
                   .bad))
                 (.f (.is (.lt (.n (-1152921504606846976)) (.v 65594 0)) false) <|
                  .br (.f (.nrel 100308 [.num (.v 0 0), .num (.v 0 1), .num (.v 0 2), .num (.v 0 3), .num (.v 0 4), .num (.v 0 5), .lst 0 6, .rows [], .tru (.le (.len 0 6) (.n 32)), .num (.n 0)] [.lst 65566 0, .tru (.lt (.n 0) (.n 0)), .num (.wrap .i64 (.bin .add (.v 65566 2) (.n 1)))]) <|
                   .bad)
                  (.f (.ndec 100308 [.num (.v 0 0), .num (.v 0 1), .num (.v 0 2), .num (.v 0 3), .num (.v 0 4), .num (.v 0 5), .lst 0 6, .rows [], .tru (.le (.len 0 6) (.n 32)), .num (.n 0)] [.lst 65566 0, .tru (.v 65566 1), .num (.v 65566 2)] [.lst 65566 0, .tru (.lt (.n 0) (.n 0)), .num (.wrap .i64 (.bin .add (.v 65566 2) (.n 1)))]) <|
                   .bad)))
                (.f (.is (.v 65599 0) false) <|
                 .br (.f (.nrel 100308 [.num (.v 0 0), .num (.v 0 1), .num (.v 0 2), .num (.v 0 3), .num (.v 0 4), .num (.v 0 5), .lst 0 6, .rows [], .tru (.le (.len 0 6) (.n 32)), .num (.n 0)] [.lst 65566 0, .tru (.lt (.n 0) (.n 0)), .num (.wrap .i64 (.bin .add (.v 65566 2) (.n 1)))]) <|
                  .bad)
                 (.f (.ndec 100308 [.num (.v 0 0), .num (.v 0 1), .num (.v 0 2), .num (.v 0 3), .num (.v 0 4), .num (.v 0 5), .lst 0 6, .rows [], .tru (.le (.len 0 6) (.n 32)), .num (.n 0)] [.lst 65566 0, .tru (.v 65566 1), .num (.v 65566 2)] [.lst 65566 0, .tru (.lt (.n 0) (.n 0)), .num (.wrap .i64 (.bin .add (.v 65566 2) (.n 1)))]) <|
                  .bad)))
              (.f (.is (.v 65566 1) false) <|
               .br (.f (.nrel 100308 [.num (.v 0 0), .num (.v 0 1), .num (.v 0 2), .num (.v 0 3), .num (.v 0 4), .num (.v 0 5), .lst 0 6, .rows [], .tru (.le (.len 0 6) (.n 32)), .num (.n 0)] [.lst 65566 0, .tru (.lt (.n 0) (.n 0)), .num (.wrap .i64 (.bin .add (.v 65566 2) (.n 1)))]) <|
                .bad)
               (.f (.ndec 100308 [.num (.v 0 0), .num (.v 0 1), .num (.v 0 2), .num (.v 0 3), .num (.v 0 4), .num (.v 0 5), .lst 0 6, .rows [], .tru (.le (.len 0 6) (.n 32)), .num (.n 0)] [.lst 65566 0, .tru (.v 65566 1), .num (.v 65566 2)] [.lst 65566 0, .tru (.lt (.n 0) (.n 0)), .num (.wrap .i64 (.bin .add (.v 65566 2) (.n 1)))]) <|
                .bad)))))))))
      (.f (.nrel 100308 [.num (.v 0 0), .num (.v 0 1), .num (.v 0 2), .num (.v 0 3), .num (.v 0 4), .num (.v 0 5), .lst 0 6, .rows [], .tru (.le (.len 0 6) (.n 32)), .num (.n 0)] [.rows [], .tru (.le (.len 0 6) (.n 32)), .num (.n 0)]) <|
       .bad))
     (.f (.is (.lt (.n 0) (.len 0 6)) false) <|
      .br (.f (.rel 100308 [.num (.v 0 0), .num (.v 0 1), .num (.v 0 2), .num (.v 0 3), .num (.v 0 4), .num (.v 0 5), .lst 0 6, .rows [], .tru (.lt (.n 0) (.n 0)), .num (.n 0)] 65566 [.list [.int .i64], .bool, .int .i64]) <|
       .br (.f (.is (.lt (.v 65566 2) (.len 0 6)) false) <|
        .br (.f (.rel 16 [.num (.v 0 5), .lst 0 6] 65570 [.int .u64, .int .i64, .int .u64, .int .u64, .int .i64, .bool]) <|
         .br (.f (.rel 18 [.num (.v 0 0), .num (.v 0 1), .num (.v 0 2), .num (.v 0 3), .num (.v 0 4), .lst 0 6] 65579 [.list [.int .i64]]) <|
          .f (.rel 17 [.lst 65579 0, .lst 65566 0] 65581 [.bool]) <|
           .br (.f (.is (.v 65581 0) true) <|
            .br (.f (.is (.v 65566 1) false) <|
             .br (.f (.rel 18 [.num (.v 0 0), .num (.v 0 1), .num (.v 0 2), .num (.v 0 3), .num (.v 0 4), .rows []] 65598 [.list [.int .i64]]) <|
              .ok [.tru (.eq (.len 65598 0) (.n 0))])
             (.f (.npre 18 [.num (.v 0 0), .num (.v 0 1), .num (.v 0 2), .num (.v 0 3), .num (.v 0 4), .rows []]) <|
              .bad))
            (.f (.is (.v 65566 1) true) <|
             .br (.f (.is (.v 65570 5) true) <|
              .br (.f (.rel 18 [.num (.v 65570 0), .num (.v 65570 1), .num (.v 65570 2), .num (.v 65570 3), .num (.v 65570 4), .lst 0 6] 65590 [.list [.int .i64]]) <|
               .br (.f (.is (.lt (.n 0) (.len 65590 0)) true) <|
                .br (.f (.rel 18 [.num (.v 0 0), .num (.v 0 1), .num (.v 0 2), .num (.v 0 3), .num (.v 0 4), .rows []] 65598 [.list [.int .i64]]) <|
                 .ok [.tru (.eq (.len 65598 0) (.n 0))])
                (.f (.npre 18 [.num (.v 0 0), .num (.v 0 1), .num (.v 0 2), .num (.v 0 3), .num (.v 0 4), .rows []]) <|
                 .bad))
               (.f (.is (.lt (.n 0) (.len 65590 0)) false) <|
                .ok [.tru (.lt (.n 0) (.n 0))]))
              (.f (.npre 18 [.num (.v 65570 0), .num (.v 65570 1), .num (.v 65570 2), .num (.v 65570 3), .num (.v 65570 4), .lst 0 6]) <|
               .bad))
             (.f (.is (.v 65570 5) false) <|
              .ok [.tru (.lt (.n 0) (.n 0))])))
           (.f (.is (.v 65581 0) false) <|
            .ok [.tru (.lt (.n 0) (.n 0))]))
         (.f (.npre 18 [.num (.v 0 0), .num (.v 0 1), .num (.v 0 2), .num (.v 0 3), .num (.v 0 4), .lst 0 6]) <|
          .bad))
        (.f (.npre 16 [.num (.v 0 5), .lst 0 6]) <|
         .bad))
       (.f (.is (.lt (.v 65566 2) (.len 0 6)) true) <|
        .br (.f (.is (.lt (.v 65566 2) (.n 0)) true) <|
         .bad)
        (.f (.is (.lt (.v 65566 2) (.n 0)) false) <|
         .br (.f (.npre 11 [.num (.v 0 0), .num (.v 0 1), .num (.v 0 2), .num (.v 0 3), .num (.v 0 4)]) <|
          .bad)
         (.f (.rel 11 [.num (.v 0 0), .num (.v 0 1), .num (.v 0 2), .num (.v 0 3), .num (.v 0 4)] 65575 [.int .u64, .bool, .list [.int .i64], .int .u64, .int .i64]) <|
          .br (.f (.npre 12 [.num (.at 0 6 (.v 65566 2) 0), .num (.at 0 6 (.v 65566 2) 1), .num (.at 0 6 (.v 65566 2) 2)]) <|
           .bad)
          (.f (.rel 12 [.num (.at 0 6 (.v 65566 2) 0), .num (.at 0 6 (.v 65566 2) 1), .num (.at 0 6 (.v 65566 2) 2)] 65577 [.int .u64, .int .u32, .int .u32]) <|
           .br (.f (.npre 10 [.num (.v 65575 0), .tru (.v 65575 1), .lst 65575 2, .num (.v 65575 3), .num (.v 65575 4), .num (.v 65577 0), .num (.v 65577 1), .num (.v 65577 2)]) <|
            .bad)
           (.f (.rel 10 [.num (.v 65575 0), .tru (.v 65575 1), .lst 65575 2, .num (.v 65575 3), .num (.v 65575 4), .num (.v 65577 0), .num (.v 65577 1), .num (.v 65577 2)] 65578 [.bool, .list [.int .i64], .bool]) <|
            .br (.f (.is (.v 65578 2) true) <|
             .br (.f (.npre 13 [.tru (.v 65578 0), .lst 65578 1]) <|
              .bad)
             (.f (.rel 13 [.tru (.v 65578 0), .lst 65578 1] 65588 [.int .i64]) <|
              .br (.f (.is (.le (.n 0) (.v 65588 0)) true) <|
               .br (.f (.is (.le (.len 65566 0) (.n 1000000000)) false) <|
                .bad)
               (.f (.is (.le (.len 65566 0) (.n 1000000000)) true) <|
                .f (.lseq 65594 (.app (.lst 65566 0) (.rows [[.v 65566 2]]))) <|
                 .f (.rel 14 [.num (.at 0 6 (.v 65566 2) 0), .num (.v 0 5)] 65599 [.int .i64]) <|
                  .br (.f (.is (.v 65566 1) true) <|
                   .f (.rel 15 [.num (.at 0 6 (.v 65566 2) 0), .num (.at 0 6 (.v 65566 2) 1), .num (.at 0 6 (.v 65566 2) 2)] 65604 [.bool]) <|
                    .br (.f (.is (.v 65604 0) true) <|
                     .br (.f (.is (.lt (.n (-1152921504606846976)) (.v 65599 0)) true) <|
                      .br (.f (.nrel 100308 [.num (.v 0 0), .num (.v 0 1), .num (.v 0 2), .num (.v 0 3), .num (.v 0 4), .num (.v 0 5), .lst 0 6, .rows [], .tru (.lt (.n 0) (.n 0)), .num (.n 0)] [.lst 65594 0, .tru (.lt (.v 65599 0) (.n 1152921504606846976)), .num (.wrap .i64 (.bin .add (.v 65566 2) (.n 1)))]) <|
                       .bad)
                      (.f (.ndec 100308 [.num (.v 0 0), .num (.v 0 1), .num (.v 0 2), .num (.v 0 3), .num (.v 0 4), .num (.v 0 5), .lst 0 6, .rows [], .tru (.lt (.n 0) (.n 0)), .num (.n 0)] [.lst 65566 0, .tru (.v 65566 1), .num (.v 65566 2)] [.lst 65594 0, .tru (.lt (.v 65599 0) (.n 1152921504606846976)), .num (.wrap .i64 (.bin .add (.v 65566 2) (.n 1)))]) <|
                       .bad))
                     (.f (.is (.lt (.n (-1152921504606846976)) (.v 65599 0)) false) <|
                      .br (.f (.nrel 100308 [.num (.v 0 0), .num (.v 0 1), .num (.v 0 2), .num (.v 0 3), .num (.v 0 4), .num (.v 0 5), .lst 0 6, .rows [], .tru (.lt (.n 0) (.n 0)), .num (.n 0)] [.lst 65594 0, .tru (.lt (.n 0) (.n 0)), .num (.wrap .i64 (.bin .add (.v 65566 2) (.n 1)))]) <|
                       .bad)
                      (.f (.ndec 100308 [.num (.v 0 0), .num (.v 0 1), .num (.v 0 2), .num (.v 0 3), .num (.v 0 4), .num (.v 0 5), .lst 0 6, .rows [], .tru (.lt (.n 0) (.n 0)), .num (.n 0)] [.lst 65566 0, .tru (.v 65566 1), .num (.v 65566 2)] [.lst 65594 0, .tru (.lt (.n 0) (.n 0)), .num (.wrap .i64 (.bin .add (.v 65566 2) (.n 1)))]) <|
                       .bad)))
                    (.f (.is (.v 65604 0) false) <|
                     .br (.f (.nrel 100308 [.num (.v 0 0), .num (.v 0 1), .num (.v 0 2), .num (.v 0 3), .num (.v 0 4), .num (.v 0 5), .lst 0 6, .rows [], .tru (.lt (.n 0) (.n 0)), .num (.n 0)] [.lst 65594 0, .tru (.lt (.n 0) (.n 0)), .num (.wrap .i64 (.bin .add (.v 65566 2) (.n 1)))]) <|
                      .bad)
                     (.f (.ndec 100308 [.num (.v 0 0), .num (.v 0 1), .num (.v 0 2), .num (.v 0 3), .num (.v 0 4), .num (.v 0 5), .lst 0 6, .rows [], .tru (.lt (.n 0) (.n 0)), .num (.n 0)] [.lst 65566 0, .tru (.v 65566 1), .num (.v 65566 2)] [.lst 65594 0, .tru (.lt (.n 0) (.n 0)), .num (.wrap .i64 (.bin .add (.v 65566 2) (.n 1)))]) <|
                      .bad)))
                  (.f (.is (.v 65566 1) false) <|
                   .br (.f (.nrel 100308 [.num (.v 0 0), .num (.v 0 1), .num (.v 0 2), .num (.v 0 3), .num (.v 0 4), .num (.v 0 5), .lst 0 6, .rows [], .tru (.lt (.n 0) (.n 0)), .num (.n 0)] [.lst 65594 0, .tru (.lt (.n 0) (.n 0)), .num (.wrap .i64 (.bin .add (.v 65566 2) (.n 1)))]) <|
                    .bad)
                   (.f (.ndec 100308 [.num (.v 0 0), .num (.v 0 1), .num (.v 0 2), .num (.v 0 3), .num (.v 0 4), .num (.v 0 5), .lst 0 6, .rows [], .tru (.lt (.n 0) (.n 0)), .num (.n 0)] [.lst 65566 0, .tru (.v 65566 1), .num (.v 65566 2)] [.lst 65594 0, .tru (.lt (.n 0) (.n 0)), .num (.wrap .i64 (.bin .add (.v 65566 2) (.n 1)))]) <|
                    .bad))))
              (.f (.is (.le (.n 0) (.v 65588 0)) false) <|
               .f (.rel 14 [.num (.at 0 6 (.v 65566 2) 0), .num (.v 0 5)] 65594 [.int .i64]) <|
                .br (.f (.is (.v 65566 1) true) <|
                 .f (.rel 15 [.num (.at 0 6 (.v 65566 2) 0), .num (.at 0 6 (.v 65566 2) 1), .num (.at 0 6 (.v 65566 2) 2)] 65599 [.bool]) <|
                  .br (.f (.is (.v 65599 0) true) <|
                   .br (.f (.is (.lt (.n (-1152921504606846976)) (.v 65594 0)) true) <|
                    .br (.f (.nrel 100308 [.num (.v 0 0), .num (.v 0 1), .num (.v 0 2), .num (.v 0 3), .num (.v 0 4), .num (.v 0 5), .lst 0 6, .rows [], .tru (.lt (.n 0) (.n 0)), .num (.n 0)] [.lst 65566 0, .tru (.lt (.v 65594 0) (.n 1152921504606846976)), .num (.wrap .i64 (.bin .add (.v 65566 2) (.n 1)))]) <|
                     .bad)
                    (.f (.ndec 100308 [.num (.v 0 0), .num (.v 0 1), .num (.v 0 2), .num (.v 0 3), .num (.v 0 4), .num (.v 0 5), .lst 0 6, .rows [], .tru (.lt (.n 0) (.n 0)), .num (.n 0)] [.lst 65566 0, .tru (.v 65566 1), .num (.v 65566 2)] [.lst 65566 0, .tru (.lt (.v 65594 0) (.n 1152921504606846976)), .num (.wrap .i64 (.bin .add (.v 65566 2) (.n 1)))]) <|
                     .bad))
                   (.f (.is (.lt (.n (-1152921504606846976)) (.v 65594 0)) false) <|
                    .br (.f (.nrel 100308 [.num (.v 0 0), .num (.v 0 1), .num (.v 0 2), .num (.v 0 3), .num (.v 0 4), .num (.v 0 5), .lst 0 6, .rows [], .tru (.lt (.n 0) (.n 0)), .num (.n 0)] [.lst 65566 0, .tru (.lt (.n 0) (.n 0)), .num (.wrap .i64 (.bin .add (.v 65566 2) (.n 1)))]) <|
                     .bad)
                    (.f (.ndec 100308 [.num (.v 0 0), .num (.v 0 1), .num (.v 0 2), .num (.v 0 3), .num (.v 0 4), .num (.v 0 5), .lst 0 6, .rows [], .tru (.lt (.n 0) (.n 0)), .num (.n 0)] [.lst 65566 0, .tru (.v 65566 1), .num (.v 65566 2)] [.lst 65566 0, .tru (.lt (.n 0) (.n 0)), .num (.wrap .i64 (.bin .add (.v 65566 2) (.n 1)))]) <|
                     .bad)))
                  (.f (.is (.v 65599 0) false) <|
                   .br (.f (.nrel 100308 [.num (.v 0 0), .num (.v 0 1), .num (.v 0 2), .num (.v 0 3), .num (.v 0 4), .num (.v 0 5), .lst 0 6, .rows [], .tru (.lt (.n 0) (.n 0)), .num (.n 0)] [.lst 65566 0, .tru (.lt (.n 0) (.n 0)), .num (.wrap .i64 (.bin .add (.v 65566 2) (.n 1)))]) <|
                    .bad)
                   (.f (.ndec 100308 [.num (.v 0 0), .num (.v 0 1), .num (.v 0 2), .num (.v 0 3), .num (.v 0 4), .num (.v 0 5), .lst 0 6, .rows [], .tru (.lt (.n 0) (.n 0)), .num (.n 0)] [.lst 65566 0, .tru (.v 65566 1), .num (.v 65566 2)] [.lst 65566 0, .tru (.lt (.n 0) (.n 0)), .num (.wrap .i64 (.bin .add (.v 65566 2) (.n 1)))]) <|
                    .bad)))
                (.f (.is (.v 65566 1) false) <|
                 .br (.f (.nrel 100308 [.num (.v 0 0), .num (.v 0 1), .num (.v 0 2), .num (.v 0 3), .num (.v 0 4), .num (.v 0 5), .lst 0 6, .rows [], .tru (.lt (.n 0) (.n 0)), .num (.n 0)] [.lst 65566 0, .tru (.lt (.n 0) (.n 0)), .num (.wrap .i64 (.bin .add (.v 65566 2) (.n 1)))]) <|
                  .bad)
                 (.f (.ndec 100308 [.num (.v 0 0), .num (.v 0 1), .num (.v 0 2), .num (.v 0 3), .num (.v 0 4), .num (.v 0 5), .lst 0 6, .rows [], .tru (.lt (.n 0) (.n 0)), .num (.n 0)] [.lst 65566 0, .tru (.v 65566 1), .num (.v 65566 2)] [.lst 65566 0, .tru (.lt (.n 0) (.n 0)), .num (.wrap .i64 (.bin .add (.v 65566 2) (.n 1)))]) <|
                  .bad)))))
            (.f (.is (.v 65578 2) false) <|
             .f (.rel 14 [.num (.at 0 6 (.v 65566 2) 0), .num (.v 0 5)] 65594 [.int .i64]) <|
              .br (.f (.is (.v 65566 1) true) <|
               .f (.rel 15 [.num (.at 0 6 (.v 65566 2) 0), .num (.at 0 6 (.v 65566 2) 1), .num (.at 0 6 (.v 65566 2) 2)] 65599 [.bool]) <|
                .br (.f (.is (.v 65599 0) true) <|
                 .br (.f (.is (.lt (.n (-1152921504606846976)) (.v 65594 0)) true) <|
                  .br (.f (.nrel 100308 [.num (.v 0 0), .num (.v 0 1), .num (.v 0 2), .num (.v 0 3), .num (.v 0 4), .num (.v 0 5), .lst 0 6, .rows [], .tru (.lt (.n 0) (.n 0)), .num (.n 0)] [.lst 65566 0, .tru (.lt (.v 65594 0) (.n 1152921504606846976)), .num (.wrap .i64 (.bin .add (.v 65566 2) (.n 1)))]) <|
                   .bad)
                  (.f (.ndec 100308 [.num (.v 0 0), .num (.v 0 1), .num (.v 0 2), .num (.v 0 3), .num (.v 0 4), .num (.v 0 5), .lst 0 6, .rows [], .tru (.lt (.n 0) (.n 0)), .num (.n 0)] [.lst 65566 0, .tru (.v 65566 1), .num (.v 65566 2)] [.lst 65566 0, .tru (.lt (.v 65594 0) (.n 1152921504606846976)), .num (.wrap .i64 (.bin .add (.v 65566 2) (.n 1)))]) <|
                   .bad))
                 (.f (.is (.lt (.n (-1152921504606846976)) (.v 65594 0)) false) <|
                  .br (.f (.nrel 100308 [.num (.v 0 0), .num (.v 0 1), .num (.v 0 2), .num (.v 0 3), .num (.v 0 4), .num (.v 0 5), .lst 0 6, .rows [], .tru (.lt (.n 0) (.n 0)), .num (.n 0)] [.lst 65566 0, .tru (.lt (.n 0) (.n 0)), .num (.wrap .i64 (.bin .add (.v 65566 2) (.n 1)))]) <|
                   .bad)
                  (.f (.ndec 100308 [.num (.v 0 0), .num (.v 0 1), .num (.v 0 2), .num (.v 0 3), .num (.v 0 4), .num (.v 0 5), .lst 0 6, .rows [], .tru (.lt (.n 0) (.n 0)), .num (.n 0)] [.lst 65566 0, .tru (.v 65566 1), .num (.v 65566 2)] [.lst 65566 0, .tru (.lt (.n 0) (.n 0)), .num (.wrap .i64 (.bin .add (.v 65566 2) (.n 1)))]) <|
                   .bad)))
                (.f (.is (.v 65599 0) false) <|
                 .br (.f (.nrel 100308 [.num (.v 0 0), .num (.v 0 1), .num (.v 0 2), .num (.v 0 3), .num (.v 0 4), .num (.v 0 5), .lst 0 6, .rows [], .tru (.lt (.n 0) (.n 0)), .num (.n 0)] [.lst 65566 0, .tru (.lt (.n 0) (.n 0)), .num (.wrap .i64 (.bin .add (.v 65566 2) (.n 1)))]) <|
                  .bad)
                 (.f (.ndec 100308 [.num (.v 0 0), .num (.v 0 1), .num (.v 0 2), .num (.v 0 3), .num (.v 0 4), .num (.v 0 5), .lst 0 6, .rows [], .tru (.lt (.n 0) (.n 0)), .num (.n 0)] [.lst 65566 0, .tru (.v 65566 1), .num (.v 65566 2)] [.lst 65566 0, .tru (.lt (.n 0) (.n 0)), .num (.wrap .i64 (.bin .add (.v 65566 2) (.n 1)))]) <|
                  .bad)))
              (.f (.is (.v 65566 1) false) <|
               .br (.f (.nrel 100308 [.num (.v 0 0), .num (.v 0 1), .num (.v 0 2), .num (.v 0 3), .num (.v 0 4), .num (.v 0 5), .lst 0 6, .rows [], .tru (.lt (.n 0) (.n 0)), .num (.n 0)] [.lst 65566 0, .tru (.lt (.n 0) (.n 0)), .num (.wrap .i64 (.bin .add (.v 65566 2) (.n 1)))]) <|
                .bad)
               (.f (.ndec 100308 [.num (.v 0 0), .num (.v 0 1), .num (.v 0 2), .num (.v 0 3), .num (.v 0 4), .num (.v 0 5), .lst 0 6, .rows [], .tru (.lt (.n 0) (.n 0)), .num (.n 0)] [.lst 65566 0, .tru (.v 65566 1), .num (.v 65566 2)] [.lst 65566 0, .tru (.lt (.n 0) (.n 0)), .num (.wrap .i64 (.bin .add (.v 65566 2) (.n 1)))]) <|
                .bad)))))))))
      (.f (.nrel 100308 [.num (.v 0 0), .num (.v 0 1), .num (.v 0 2), .num (.v 0 3), .num (.v 0 4), .num (.v 0 5), .lst 0 6, .rows [], .tru (.lt (.n 0) (.n 0)), .num (.n 0)] [.rows [], .tru (.lt (.n 0) (.n 0)), .num (.n 0)]) <|
       .bad)))))
theorem c3 : ConS Tryz.prog T C3 := con_tr (cs := [C10, C11, C12, C13, C14, C15, C16, C17, C18]) (lcs := [L100308]) (known := [29, 75, 22, 65, 104, 115, 19, 55, 9, 44, 85, 110, 120, 131, 140, 130, 139, 150, 161, 179, 182, 178, 181, 190, 191]) (cons_cons c10 (cons_cons c11 (cons_cons c12 (cons_cons c13 (cons_cons c14 (cons_cons c15 (cons_cons c16 (cons_cons c17 (cons_cons c18 (cons_nil _ _)))))))))) known29 (N := 400) (d := 40) (t := t3) (by kernel_rfl) <| by
  intro E hl hp
  have hl6 := hl 6 _ rfl
  clear hl
  have hp := hp rfl
  simp only [C3, show T.pre 3 = Q3 from rfl, flatS, SP.flat, dvs, List.append_nil, List.cons_append, List.nil_append, Q3, U64, U32, I64, s64, WT, MB] at hp
  simp only [t3, C3, Tr.good, Fact.den, LX.den, DX.ls, DV.ls, DX.den, Bx.den, Ex.den, eo_add, eo_sub, eo_mul, eo_quo, eo_rem, eo_fdv, eo_mn, eo_mx, eo_land, eo_lor, eo_lxor, eo_landn, eo_shl, eo_shr, dvs, flatS, SP.flat, ST.flat, List.map_cons, List.map_nil, List.append_nil, List.cons_append, List.nil_append, ltb_t, ltb_f, leb_t, leb_f, eqb_t, eqb_f, decide_eq_true_eq, decide_eq_false_iff_not, Bool.not_eq_true', Bool.not_eq_false', Bool.and_eq_true, Bool.and_eq_false_imp, beq_iff_eq, beq_eq_false_iff_ne, bne_iff_ne, U64, U32, I64, Told, s64, WT, MB, Int.zero_mul, Int.zero_add, Int.add_zero, Int.mul_zero, IntKind.wrap_u64, IntKind.wrap_i64, IntKind.wrap_u32, ne_eq, forall_const, true_implies, show T.rel 3 = R3 from rfl, R3, show T.rel 10 = R10 from rfl, R10, show T.rel 11 = R11 from rfl, R11, show T.rel 12 = R12 from rfl, R12, show T.rel 13 = R13 from rfl, R13, show T.rel 14 = R14 from rfl, R14, show T.rel 15 = R15 from rfl, R15, show T.rel 16 = R16 from rfl, R16, show T.rel 17 = R17 from rfl, R17, show T.rel 18 = R18 from rfl, R18, show T.rel 100308 = R100308 from rfl, R100308, show T.mu 100308 = M100308 from rfl, M100308, show T.pre 3 = Q3 from rfl, Q3, show T.pre 10 = Q10 from rfl, Q10, show T.pre 11 = Q11 from rfl, Q11, show T.pre 12 = Q12 from rfl, Q12, show T.pre 13 = Q13 from rfl, Q13, show T.pre 16 = Q16 from rfl, Q16, show T.pre 18 = Q18 from rfl, Q18]
  revert hp hl6
  generalize (E.r 0).i 0 = b
  generalize (E.r 0).i 1 = h
  generalize (E.r 0).i 2 = l
  generalize (E.r 0).i 3 = w
  generalize (E.r 0).i 4 = n
  generalize (E.r 0).i 5 = base
  generalize (E.r 0).l 6 = xs
  generalize (E.r 65566).l 0 = x30_0
  generalize (E.r 65566).c 1 = x30_1
  generalize (E.r 65566).i 2 = x30_2
  generalize (E.r 65570).i 0 = x34_0
  generalize (E.r 65570).i 1 = x34_1
  generalize (E.r 65570).i 2 = x34_2
  generalize (E.r 65570).i 3 = x34_3
  generalize (E.r 65570).i 4 = x34_4
  generalize (E.r 65570).c 5 = x34_5
  generalize (E.r 65575).i 0 = x39_0
  generalize (E.r 65575).c 1 = x39_1
  generalize (E.r 65575).l 2 = x39_2
  generalize (E.r 65575).i 3 = x39_3
  generalize (E.r 65575).i 4 = x39_4
  generalize (E.r 65577).i 0 = x41_0
  generalize (E.r 65577).i 1 = x41_1
  generalize (E.r 65577).i 2 = x41_2
  generalize (E.r 65578).c 0 = x42_0
  generalize (E.r 65578).l 1 = x42_1
  generalize (E.r 65578).c 2 = x42_2
  generalize (E.r 65579).l 0 = x43_0
  generalize (E.r 65581).c 0 = x45_0
  generalize (E.r 65588).i 0 = x52_0
  generalize (E.r 65590).l 0 = x54_0
  generalize (E.r 65594).l 0 = x58_0
  generalize (E.r 65594).i 0 = x58_0i
  generalize (E.r 65598).l 0 = x62_0
  generalize (E.r 65599).c 0 = x63_0
  generalize (E.r 65599).i 0 = x63_0i
  generalize (E.r 65604).c 0 = x68_0
  try simp only [Bg]
  try generalize bval x39_1 x39_2 = y39_1
  try generalize bval x42_0 x42_1 = y42_0
  try simp only [mxI, mnI]
  try simp only [ltb, leb, eqb, Int.lt_irrefl, decide_false, Int.le_refl, decide_true]
  intro hl hp
  obtain ⟨hW, hb, hw, hn, hbase, hk⟩ := hp
  have both : ∀ {a c p r s : Prop}, p → (a → r) → (c → s) → (a → p ∧ r) ∧ (c → p ∧ s) := fun hp h1 h2 => ⟨fun x => ⟨hp, h1 x⟩, fun x => ⟨hp, h2 x⟩⟩
  have hM := Mq_eq (w := w) (n := n) hW
  have hB : Big (wv h l) := by simp only [W] at hW; simp only [Big, wv]; omega
  refine ⟨fun _ => trivial, fun c1 => ⟨fun _ => trivial, fun c2 => ⟨fun _ => trivial, fun c3 => both (fun ⟨i0, i1, i2, i3⟩ => ?_) (fun c4 z => z ⟨trivial, by omega, rfl, ?_⟩) (fun c4 z => z ⟨trivial, by omega, rfl, ?_⟩)⟩⟩⟩
  · obtain ⟨k, rfl⟩ := Int.eq_ofNat_of_zero_le i0
    simp only [Int.toNat_natCast] at i2 i3
    refine ⟨fun c5 => ⟨fun ⟨f1, f2, f3⟩ => ⟨fun o43 e45 => ?_, fun z => z ⟨hW, hw, hn, hk, by omega⟩⟩, fun z => z hk⟩, fun c5 => ⟨fun h => by omega, fun _ => ⟨fun z => z ⟨hW, hb⟩, fun ⟨g1, g2, g3, g4, g5⟩ => ?_⟩⟩⟩
    · have ek : k = xs.length := by omega
      subst ek
      have hL : x43_0 = x30_0 := OW_eq (fun _ _ => Iff.rfl) o43 i2
      have t45 : x45_0 = true := e45.2 (by rw [hL]; exact ⟨rfl, fun _ _ => rfl⟩)
      have hz : ∀ L : List (List Int), OW (EL b h l w n []) L ([] : List (List Int)).length → (L.length : Int) = 0 := fun L o => by
        simp only [List.length_nil, OW] at o
        simp [o]
      have hr : RK [] := fun k => by
        have h0 : ∀ c, Sy.rowAt ([] : List (List Int)) (k : Int) c = 0 := fun c => by simp [Sy.rowAt]
        rw [h0, h0, h0]
        omega
      refine ⟨fun _ => ⟨fun _ => ⟨hz _, fun z => z ⟨hW, hw, hn, hr, by simp⟩⟩, fun nt => ?_⟩, fun f => absurd (t45.symm.trans f) (by simp)⟩
      obtain ⟨n1, n2, n3, n4⟩ := i3.1 nt
      have e34 : x34_5 = true := f1.2 ⟨n2, n3⟩
      obtain ⟨f4, f5, f6, f7, f8⟩ := f2 e34
      have hWs := SW_le n3
      refine ⟨fun _ => ⟨fun o54 => ⟨fun _ => ⟨hz _, fun z => z ⟨hW, hw, hn, hr, by simp⟩⟩, fun c6 => ?_⟩, fun z => z ⟨f5, by omega, by omega, hk, by omega⟩⟩, fun f => absurd (e34.symm.trans f) (by simp)⟩
      have e0 : x54_0 = [] := List.eq_nil_of_length_eq_zero (by omega)
      have hA := SA_nearQ hk n3 n4
      have hno := OW_ne o54 e0
      have hno2 : ∀ j : Nat, j < xs.length → SA base xs xs.length * Sy.rowAt xs j 2 < rdist base xs j * SW xs xs.length := by
        intro j hj
        have q := hno j hj
        apply Int.not_le.1
        intro hle
        apply q
        have hpj := n3 j hj
        have hnj := n4 j hj
        have dj := near_distQ hpj (hk j).2.1.1 hnj.1 hnj.2
        have hd : -(1152921504606846976 * Sy.rowAt xs j 2) ≤ rdist base xs j ∧ rdist base xs j ≤ 1152921504606846976 * Sy.rowAt xs j 2 := dj
        have p1 := mul_le2 (a := SA base xs xs.length) (b := Sy.rowAt xs j 2) (X := 38685626227668133590597632) (Y := 1048576) (by omega) (by omega) (by omega) (by omega)
        have p2 := mul_le2 (a := rdist base xs j) (b := SW xs xs.length) (X := 1208925819614629174706176) (Y := 33554432) (by omega) (by omega) (by omega) (by omega)
        unfold EL
        rw [f6, f4, f7, f8]
        generalize rdist base xs j = D at *
        exact ⟨by right; omega, by omega, hpj, by omega, by omega, by omega, hle⟩
      have hb2 := behind hno2
      omega
    · have hkl : k < xs.length := by omega
      have ew : ((k : Int) + 1 + 9223372036854775808) % 18446744073709551616 - 9223372036854775808 = ((k + 1 : Nat) : Int) := by omega
      simp only [ew, Int.toNat_natCast]
      have hkk := hk k
      have ll := OW_len i2
      replace g1 := g1.symm
      replace g3 := g3.symm
      replace g4 := g4.symm
      replace g5 := g5.symm
      subst g1 g3 g4 g5
      simp only [hM, Bi_eq, Pq_eq]
      refine ⟨fun z => z hkk, fun ⟨k1, k2, k3⟩ => ?_⟩
      subst k1 k2 k3
      refine ⟨fun z => z ⟨g2, hB, hb, hw, by omega, by omega, hkk⟩, fun ⟨q1, q2, q3, q4⟩ => ?_⟩
      have E2 : EL b h l w n xs k ↔ x42_2 = true ∧ rdist b xs k * w ≤ wv h l * Sy.rowAt xs k 2 := by
        rw [q2]
        unfold EL
        exact ⟨fun ⟨a, b, c, d, e, f, g⟩ => ⟨⟨a, b, c, d, e, f⟩, g⟩, fun ⟨⟨a, b, c, d, e, f⟩, g⟩ => ⟨a, b, c, d, e, f, g⟩⟩
      have o1 : EL b h l w n xs k → OW (EL b h l w n xs) (x30_0 ++ [[(k : Int)]]) (k + 1) := fun q => by
        simp only [OW]
        exact Or.inl ⟨q, x30_0, i2, rfl⟩
      have o2 : ¬ EL b h l w n xs k → OW (EL b h l w n xs) x30_0 (k + 1) := fun q => by
        simp only [OW]
        exact Or.inr ⟨q, i2⟩
      have NA : ∀ s : Int, s = ((Sy.rowAt xs k 0 - base + 9223372036854775808) % 18446744073709551616 - 9223372036854775808) → x30_1 = true → PR (Sy.rowAt xs k 1) (Sy.rowAt xs k 2) → -1152921504606846976 < s → (s < 1152921504606846976 ↔ 0 < xs.length ∧ xs.length ≤ 32 ∧ AP xs (k + 1) ∧ AQ 1152921504606846976 base xs (k + 1)) := by
        intro s es nt pr lo
        have := i3.1 nt
        rw [AP.succ, AQ.succ]
        subst es
        exact ⟨fun hi => ⟨this.1, this.2.1, ⟨this.2.2.1, pr⟩, this.2.2.2, lo, hi⟩, fun q => q.2.2.2.2.2⟩
      have NB : (x30_1 = true → ¬ PR (Sy.rowAt xs k 1) (Sy.rowAt xs k 2) ∨ ((Sy.rowAt xs k 0 - base + 9223372036854775808) % 18446744073709551616 - 9223372036854775808) ≤ -1152921504606846976) → (False ↔ 0 < xs.length ∧ xs.length ≤ 32 ∧ AP xs (k + 1) ∧ AQ 1152921504606846976 base xs (k + 1)) := by
        intro q
        rw [AP.succ, AQ.succ]
        refine ⟨fun f => f.elim, fun ⟨a, b1, ⟨ap, pr⟩, aq, lo, hi⟩ => ?_⟩
        rcases q (i3.2 ⟨a, b1, ap, aq⟩) with q | q
        · exact q pr
        · simp only [s64] at lo
          omega
      have hrd : rdist b xs k = Sy.rowAt xs k 2 * ((Sy.rowAt xs k 0 - b + 9223372036854775808) % 18446744073709551616 - 9223372036854775808) + Sy.rowAt xs k 1 := rfl
      rw [← hrd] at q3
      generalize rdist b xs k = D at *
      refine ⟨fun t => ⟨fun z => z q1, fun ⟨u1, u2, u3⟩ => ⟨fun v0 => ⟨fun f => by omega, fun _ ex => ?_⟩, fun v0 => ?_⟩⟩, fun t => ?_⟩
      · have q5 := q3 t
        have o := o1 (E2.2 ⟨t, by omega⟩)
        rw [← ex] at o
        exact fun es => ⟨fun nt e68 => ⟨fun t68 => ⟨fun lo => ⟨fun z => z ⟨by omega, by omega, o, NA _ es nt (e68.1 t68) lo⟩, by omega⟩, fun lo => ⟨fun z => z ⟨by omega, by omega, o, NB (fun _ => Or.inr (by rw [es] at lo; exact lo))⟩, by omega⟩⟩, fun t68 => ⟨fun z => z ⟨by omega, by omega, o, NB (fun _ => Or.inl (fun pr => absurd (t68.symm.trans (e68.2 pr)) (by simp)))⟩, by omega⟩⟩, fun nt => ⟨fun z => z ⟨by omega, by omega, o, NB (fun t => absurd (nt.symm.trans t) (by simp))⟩, by omega⟩⟩
      · have q5 := q3 t
        have o := o2 (fun q => by have := (E2.1 q).2; omega)
        exact fun es => ⟨fun nt e68 => ⟨fun t68 => ⟨fun lo => ⟨fun z => z ⟨by omega, by omega, o, NA _ es nt (e68.1 t68) lo⟩, by omega⟩, fun lo => ⟨fun z => z ⟨by omega, by omega, o, NB (fun _ => Or.inr (by rw [es] at lo; exact lo))⟩, by omega⟩⟩, fun t68 => ⟨fun z => z ⟨by omega, by omega, o, NB (fun _ => Or.inl (fun pr => absurd (t68.symm.trans (e68.2 pr)) (by simp)))⟩, by omega⟩⟩, fun nt => ⟨fun z => z ⟨by omega, by omega, o, NB (fun t => absurd (nt.symm.trans t) (by simp))⟩, by omega⟩⟩
      · have o := o2 (fun q => by have := (E2.1 q).1; rw [t] at this; cases this)
        exact fun es => ⟨fun nt e68 => ⟨fun t68 => ⟨fun lo => ⟨fun z => z ⟨by omega, by omega, o, NA _ es nt (e68.1 t68) lo⟩, by omega⟩, fun lo => ⟨fun z => z ⟨by omega, by omega, o, NB (fun _ => Or.inr (by rw [es] at lo; exact lo))⟩, by omega⟩⟩, fun t68 => ⟨fun z => z ⟨by omega, by omega, o, NB (fun _ => Or.inl (fun pr => absurd (t68.symm.trans (e68.2 pr)) (by simp)))⟩, by omega⟩⟩, fun nt => ⟨fun z => z ⟨by omega, by omega, o, NB (fun t => absurd (nt.symm.trans t) (by simp))⟩, by omega⟩⟩
  · exact ⟨fun h => ⟨by omega, by omega, AP.nil _, AQ.nil _ _ _⟩, fun h => by omega⟩
  · exact ⟨fun f => f.elim, fun h => by omega⟩
end Go.Proofs.YthlcpdjpnbbaeaaGreatDoor.Fn
