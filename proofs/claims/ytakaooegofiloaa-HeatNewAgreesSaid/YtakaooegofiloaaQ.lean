/- The heat laws on the pure side, all of them. -/
import Derived.Test.YtakaooegofiloaaQ10
